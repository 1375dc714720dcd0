/-
  Contracts of hunk and script.Fits.
-/
import Derived.Test.YtafcebkjmeinnaaGreatDoorCona1
import Derived.Test.YtafcebkjmeinnaaGreatDoorCode1
import Derived.Lib.ItoaLen
import Derived.Lib.Repeat

set_option linter.unusedSimpArgs false
set_option linter.unusedVariables false
set_option linter.unnecessarySimpa false
set_option maxRecDepth 100000
set_option maxHeartbeats 4000000
namespace Go.AE
@[simp] def S_script_Fits:List D→Prop × D:=spec3 (α:=List ChangeT) (β:=List Int) (γ:=List Int) (fun l a b=>fitsV l a b=true) (fun _ _ _=>.bool true)
theorem ct_script_Fits {P:Program} {f g1 g2:Nat} {G:Gam} (h:CodeOf P f 3 11 [3] (x_script_Fits g1 g2)) (hG:GamOk P G) (h1:G.find g1=some S_script_Check) (h2:G.find g2=some S_script_pairs):Has P f S_script_Fits:=h.has3 hG fun l a b hp=>by
  have hp2:=hp
  simp only[fitsV,Bool.and_eq_true,List.all_eq_true,decide_eq_true_eq] at hp2
  obtain⟨hc,he⟩:=hp2
  have hok:okV l 0 0 true a.length b.length=true:=by simp only[checkV,Bool.and_eq_true] at hc;exact hc.2
  have hM:=matV_mem _ _ _ _ _ _ hok
  have hL:=matV_len _ _ _ _ _ _ hok
  have hin:a.length≤4096:=by
    simp only[checkV,Bool.and_eq_true] at hc
    have:=inV_true hc.1.1
    omega
  simp[x_script_Fits,h1,hc,h2,show ∃n,checkV l a.length n=true from ⟨_,hc⟩]
  generalize matV l 0 0 a.length=q at *
  refine vc_lp (σ:=Nat) (fun x=>x≤q.length) (fun x=>q.length-x) (fun x=>[.any,.d (Rep.to a),.d (Rep.to b),.any,.any,.any,.d (Rep.to q),.d (.int .i64 q.length),.d (.int .i64 x),.any,.any]) (fun _=>[]) 0 (by simp) (by simp) (by simp) ?_
  intro k k1
  by_cases h8:k<q.length
  · have hm:=hM _ (List.getElem_mem h8)
    have hee:=he _ (List.getElem_mem h8)
    generalize hq:q[k]=s at *
    obtain⟨fr,to⟩:=s
    simp only at hm hee
    obtain⟨x,rfl⟩:=Int.eq_ofNat_of_zero_le hm.1
    obtain⟨y,rfl⟩:=Int.eq_ofNat_of_zero_le hm.2.2.1
    have hx:x<a.length:=by omega
    have hy:y<b.length:=by omega
    have w1:IntKind.i64.wrap ((k:Int)+1)=(k:Int)+1:=wrap_in (by omega) (by omega)
    simp[List.getD,hx,hy] at hee
    simp[h8,getD_map,hq,hx,hy,hee,w1]
    exact Nxt.mk (k+1) (by omega) (by simp) (by simp) (by omega)
  · simp[h8]
/-! ### hunks -/
def chOk (c:ChangeT):Prop:=(0≤c.old∧c.old≤4096)∧(0≤c.oldLen∧c.oldLen≤4096)∧(0≤c.new∧c.new≤4096)∧(0≤c.newLen∧c.newLen≤4096)
theorem okV_ch:∀(l:List ChangeT) (i j m n:Int) (f:Bool),okV l i j f m n=true→∀c,c∈l→chOk c
  | [],_,_,_,_,_,_,c,hc=>by simp at hc
  | d::l,i,j,m,n,f,h,c,hc=>by
    simp only[okV,Bool.and_eq_true] at h
    rcases List.mem_cons.1 hc with rfl | hc
    · have:=stepV_true h.1
      exact⟨this.1,this.2.1,this.2.2.1,this.2.2.2.1⟩
    · exact okV_ch l _ _ _ _ _ h.2 c hc
theorem checkV_ch {l:List ChangeT} {m n:Int} (h:checkV l m n=true):(∀c,c∈l→chOk c)∧l.length≤8192∧0≤m∧m≤4096∧0≤n∧n≤4096:=by
  have h2:=h
  simp only[checkV,Bool.and_eq_true] at h2
  have h3:=inV_true h2.1.1
  have h4:=inV_true h2.1.2
  exact⟨okV_ch _ _ _ _ _ _ h2.2,check_clen h,h3.1,h3.2,h4.1,h4.2⟩
def ChsOk (l:List ChangeT):Prop:=∀c,c∈l→chOk c
@[simp] def S_hunk_closed:List D→Prop × D:=spec5 (α:=List ChangeT) (β:=Int) (γ:=Int) (δ:=Int) (ε:=Int) (fun l f k m ctx=>ChsOk l∧l.length≤8192∧0≤f∧f<k∧k≤l.length∧0≤m∧m≤4096∧0≤ctx∧ctx≤1048576) (fun l f k m ctx=>Rep.to (closedV l f.toNat k.toNat m ctx))
theorem ct_hunk_closed {P:Program} {f:Nat} {G:Gam} (h:CodeOf P f 5 10 [62005] x_hunk_closed) (hG:GamOk P G):Has P f S_hunk_closed:=h.has5 hG fun l f k m ctx hp=>by
  obtain⟨p1,p2,p3,p4,p5,p6,p7,p8,p9⟩:=hp
  obtain⟨f,rfl⟩:=Int.eq_ofNat_of_zero_le p3
  obtain⟨k,rfl⟩:=Int.eq_ofNat_of_zero_le (show 0≤k by omega)
  have hf:f<l.length:=by omega
  have hk:k-1<l.length:=by omega
  have w0:IntKind.i64.wrap ((k:Int)-1)=((k-1:Nat):Int):=by rw[wrap_in (by omega) (by omega)];omega
  have ga:l.getD f default=l[f]:=by simp[List.getD,hf]
  have gz:l.getD (k-1) default=l[k-1]:=by simp[List.getD,hk]
  have ca:=p1 _ (List.getElem_mem hf)
  have cz:=p1 _ (List.getElem_mem hk)
  simp only[Int.toNat_natCast,closedV,ga,gz]
  have hkn:((k:Int))=((k:Nat):Int):=rfl
  generalize hk1:k-1=k1 at *
  generalize ha:l[f]=a at *
  generalize hz:l[k1]=z at *
  obtain⟨ao,ad,an,ae⟩:=a
  obtain⟨zo,zd,zn,ze⟩:=z
  obtain⟨a1,a2,a3,a4⟩:=ca
  obtain⟨z1,z2,z3,z4⟩:=cz
  simp only at a1 a2 a3 a4 z1 z2 z3 z4
  have v1:IntKind.i64.wrap (m-zo)=m-zo:=wrap_in (by omega) (by omega)
  have v2:IntKind.i64.wrap (m-zo-zd)=m-zo-zd:=wrap_in (by omega) (by omega)
  have v3:IntKind.i64.wrap (ao-min ctx ao)=ao-min ctx ao:=wrap_in (by omega) (by omega)
  have v4:IntKind.i64.wrap (zo+zd)=zo+zd:=wrap_in (by omega) (by omega)
  have v5:IntKind.i64.wrap (zo+zd+min ctx (m-zo-zd))=zo+zd+min ctx (m-zo-zd):=wrap_in (by omega) (by omega)
  have v6:IntKind.i64.wrap (an-min ctx ao)=an-min ctx ao:=wrap_in (by omega) (by omega)
  have v7:IntKind.i64.wrap (zn+ze)=zn+ze:=wrap_in (by omega) (by omega)
  have v8:IntKind.i64.wrap (zn+ze+min ctx (m-zo-zd))=zn+ze+min ctx (m-zo-zd):=wrap_in (by omega) (by omega)
  simp[x_hunk_closed,hf,hk,w0,getD_map,ha,hz,v1,v2,v3,v4,v5,v6,v7,v8]
theorem grpH_len (l:List ChangeT) (m ctx:Int):∀(r:List ChangeT) (f i:Nat),(grpH l m ctx r f i).length≤r.length
  | [],_,_=>by simp[grpH]
  | c::r,f,i=>by
    have h1:=grpH_len l m ctx r (i+1) (i+1)
    have h2:=grpH_len l m ctx r f (i+1)
    simp only[grpH]
    split
    · simp only[List.length_cons];omega
    · simp only[List.length_cons];omega
structure GpX where
  i:Nat
  f:Nat
  out:List HunkT
@[simp] def S_hunk_Group:List D→Prop × D:=spec4 (α:=List ChangeT) (β:=Int) (γ:=Int) (δ:=Int) (fun l m n ctx=>checkV l m n=true∧0≤ctx∧ctx≤1048576) (fun l m _ ctx=>.tup [Rep.to (grpH l m ctx l 0 0),.int .i64 0])
theorem ct_hunk_Group {P:Program} {f g1 g2:Nat} {G:Gam} (h:CodeOf P f 4 18 [4,5] (x_hunk_Group g1 g2)) (hG:GamOk P G) (h1:G.find g1=some S_script_Check) (h2:G.find g2=some S_hunk_closed):Has P f S_hunk_Group:=h.has4 hG fun l m n ctx hp=>by
  obtain⟨hc,q1,q2⟩:=hp
  obtain⟨r1,r2,r3,r4,r5,r6⟩:=checkV_ch hc
  have r1':ChsOk l:=r1
  simp[x_hunk_Group,show ¬ctx<0 by omega,show ¬1048576<ctx by omega,h1,hc]
  refine vc_lp (σ:=GpX) (fun x=>x.i≤l.length∧x.f≤x.i∧x.out.length≤x.i∧x.out++grpH l m ctx (l.drop x.i) x.f x.i=grpH l m ctx l 0 0) (fun x=>l.length-x.i)
    (fun x=>[.d (Rep.to l),.d (.int .i64 m),.any,.d (.int .i64 ctx),.any,.any,.any,.gr 0 6 (x.out.map Rep.to),.d (.int .i64 x.f),.any,.any,.any,.any,.d (Rep.to l),.d (.int .i64 l.length),.d (.int .i64 x.i),.any,.any])
    (fun x=>[.tip x.out.length]) ⟨0,0,[]⟩ (by simp) (by simp) ⟨by simp,by simp,by simp,by simp⟩ ?_
  rintro⟨i,fi,out⟩ ⟨i1,i2,i3,i4⟩
  simp only at i1 i2 i3 i4
  by_cases hi:i<l.length
  · have w1:IntKind.i64.wrap ((i:Int)+1)=(i:Int)+1:=wrap_in (by omega) (by omega)
    have w2:IntKind.i64.wrap (2 * ctx)=2 * ctx:=wrap_in (by omega) (by omega)
    have ci:=r1 _ (List.getElem_mem hi)
    obtain⟨b1,b2,_,_⟩:=ci
    rw[List.drop_eq_getElem_cons hi,grpH] at i4
    have close:cutB ctx l[i] (l.drop (i+1))=true→True:=fun _=>trivial
    have hcl:(fi:Int)<(i:Int)+1:=by omega
    have tn:((i:Int)+1).toNat=i+1:=by omega
    by_cases hl:i+1<l.length
    · have cn:=r1 _ (List.getElem_mem hl)
      obtain⟨e1,_,_,_⟩:=cn
      have v1:IntKind.i64.wrap (l[i+1].old-l[i].old)=l[i+1].old-l[i].old:=wrap_in (by omega) (by omega)
      have v2:IntKind.i64.wrap (l[i+1].old-l[i].old-l[i].oldLen)=l[i+1].old-l[i].old-l[i].oldLen:=wrap_in (by omega) (by omega)
      have hcut:cutB ctx l[i] (l.drop (i+1))=decide (2 * ctx<l[i+1].old-l[i].old-l[i].oldLen):=by rw[List.drop_eq_getElem_cons hl];rfl
      by_cases c:2 * ctx<l[i+1].old-l[i].old-l[i].oldLen
      · rw[hcut,if_pos (by simpa using c)] at i4
        simp[hi,getD_map,w1,w2,hl,show ¬(i:Int)+1=l.length by omega,show (i:Int)+1<l.length by omega,v1,v2,c,tn]
        have hcl':(fi:Int)<(i:Int)+1:=by omega
        simp[h2,r1',r2,show (i:Int)+1≤l.length by omega,show (fi:Int)<(i:Int)+1 by omega,show 0≤(i:Int)+1 by omega,r3,r4,q1,q2,w1,tn]
        refine⟨by unfold room;omega,Nxt.mk (⟨i+1,i+1,out++[closedV l fi (i+1) m ctx]⟩:GpX) (by simp only;omega) (by simp) (by simp) ⟨by simp only;omega,by simp only;omega,by simp;omega,by simpa using i4⟩⟩
      · rw[hcut,if_neg (by simpa using c)] at i4
        simp[hi,getD_map,w1,w2,hl,show ¬(i:Int)+1=l.length by omega,show (i:Int)+1<l.length by omega,v1,v2,c,tn]
        refine⟨by omega,Nxt.mk (⟨i+1,fi,out⟩:GpX) (by simp only;omega) (by simp) (by simp) ⟨by simp only;omega,by simp only;omega,by simp only;omega,i4⟩⟩
    · have hll:(i:Int)+1=l.length:=by omega
      have hcut:cutB ctx l[i] (l.drop (i+1))=true:=by rw[List.drop_of_length_le (by omega)];rfl
      rw[hcut,if_pos rfl] at i4
      have w3:IntKind.i64.wrap (l.length:Int)=l.length:=wrap_in (by omega) (by omega)
      have ti:i+1=l.length:=by omega
      rw[ti] at i4
      simp[hi,getD_map,w1,w3,hll,h2,r1',r2,show (fi:Int)<l.length by omega,r3,r4,q1,q2]
      refine⟨by unfold room;omega,Nxt.mk (⟨l.length,l.length,out++[closedV l fi l.length m ctx]⟩:GpX) (by simp only;omega) (by simp) (by simp) ⟨by simp only;omega,by simp only;omega,by simp;omega,by simpa using i4⟩⟩
  · rw[List.drop_of_length_le (by omega),grpH,List.append_nil] at i4
    subst i4
    simp[hi]
@[simp] def S_strconv_Itoa:List D→Prop × D:=spec1 (α:=Int) (fun n=>0≤n∧n≤9223372036854775807) (fun n=>.str (Lib.itoa n))
@[simp] def S_scan_digit:List D→Prop × D:=spec2 (α:=Str) (β:=Int) (fun s i=>s.length≤1048576∧0≤i) (fun s i=>.bool (digB s i.toNat))
theorem ct_scan_digit {P:Program} {f:Nat} {G:Gam} (h:CodeOf P f 2 3 [2] x_scan_digit) (hG:GamOk P G):Has P f S_scan_digit:=h.has2 hG fun s i hp=>by
  obtain⟨p1,p2⟩:=hp
  obtain⟨k,rfl⟩:=Int.eq_ofNat_of_zero_le p2
  by_cases hk:k<s.length
  · have e:digB s k=(decide (48≤s[k].toNat) && decide (s[k].toNat≤57)):=by unfold digB;rw[List.getElem?_eq_getElem hk]
    by_cases c1:48≤s[k].toNat
    · by_cases c2:s[k].toNat≤57
      · simp[x_scan_digit,hk,e,c1,c2,show (48:Int)≤(s[k].toNat:Int) by omega,show (s[k].toNat:Int)≤57 by omega]
      · simp[x_scan_digit,hk,e,c1,c2,show (48:Int)≤(s[k].toNat:Int) by omega,show ¬(s[k].toNat:Int)≤57 by omega]
    · simp[x_scan_digit,hk,e,c1,show ¬(48:Int)≤(s[k].toNat:Int) by omega]
  · have e:digB s k=false:=by unfold digB;rw[List.getElem?_eq_none (by omega)]
    simp[x_scan_digit,hk,e]
theorem fmt_len (n:Int):(fmtV n).length≤21:=by
  unfold fmtV
  split
  · simp
  · exact Lib.itoa_length_le _ (by omega) (by omega)
@[simp] def S_scan_Format:List D→Prop × D:=spec1 (α:=Int) (fun _=>True) (fun n=>.str (fmtV n))
theorem ct_scan_Format {P:Program} {f g1:Nat} {G:Gam} (h:CodeOf P f 1 3 [1] (x_scan_Format g1)) (hG:GamOk P G) (h1:G.find g1=some S_strconv_Itoa):Has P f S_scan_Format:=h.has1 hG fun n _=>by
  by_cases c1:n<0
  · have e:fmtV n=[]:=by unfold fmtV;rw[if_pos (by omega)]
    simp[x_scan_Format,c1,e]
  · by_cases c2:2147483647<n
    · have e:fmtV n=[]:=by unfold fmtV;rw[if_pos (by omega)]
      simp[x_scan_Format,c1,c2,e]
    · have e:fmtV n=Lib.itoa n:=by unfold fmtV;rw[if_neg (by omega)]
      simp[x_scan_Format,h1,c1,c2,e,show 0≤n by omega,show n≤9223372036854775807 by omega]
@[simp] def S_scan_FormatRange:List D→Prop × D:=spec2 (α:=Int) (β:=Int) (fun _ _=>True) (fun s c=>.str (frangeV s c))
theorem ct_scan_FormatRange {P:Program} {f g1:Nat} {G:Gam} (h:CodeOf P f 2 7 [2] (x_scan_FormatRange g1)) (hG:GamOk P G) (h1:G.find g1=some S_scan_Format):Has P f S_scan_FormatRange:=h.has2 hG fun s c _=>by
  have l1:=fmt_len s
  have l2:=fmt_len (s+1)
  have l3:=fmt_len c
  by_cases c1:s<0
  · have e:frangeV s c=[]:=by unfold frangeV;rw[if_pos (by omega)]
    simp[x_scan_FormatRange,c1,e]
  · by_cases c2:c<0
    · have e:frangeV s c=[]:=by unfold frangeV;rw[if_pos (by omega)]
      simp[x_scan_FormatRange,c1,c2,e]
    · by_cases c3:2147483647<s
      · have e:frangeV s c=[]:=by unfold frangeV;rw[if_pos (by omega)]
        simp[x_scan_FormatRange,c1,c2,c3,e]
      · have w1:IntKind.i64.wrap (2147483647-s)=2147483647-s:=wrap_in (by omega) (by omega)
        have w2:IntKind.i64.wrap (s+1)=s+1:=wrap_in (by omega) (by omega)
        by_cases c4:2147483647-s<c
        · have e:frangeV s c=[]:=by unfold frangeV;rw[if_pos (by omega)]
          simp[x_scan_FormatRange,c1,c2,c3,w1,c4,e]
        · have e:frangeV s c=if c=0 then fmtV s++[44,48] else if c=1 then fmtV (s+1) else fmtV (s+1)++[44]++fmtV c:=by unfold frangeV;rw[if_neg (by omega)]
          by_cases c5:c=0
          · rw[if_pos c5] at e
            subst c5
            simp[x_scan_FormatRange,c1,c3,w1,c4,h1,e]
            omega
          · rw[if_neg c5] at e
            by_cases c6:c=1
            · rw[if_pos c6] at e
              subst c6
              simp[x_scan_FormatRange,c1,c3,w1,w2,c4,h1,e]
            · rw[if_neg c6] at e
              simp[x_scan_FormatRange,c1,c2,c3,w1,w2,c4,c5,c6,h1,e]
              omega
def optN (o:Option (Int × Nat)):D:=match o with
  | some x=>.tup [.int .i64 x.1,.int .i64 x.2,.bool true]
  | none=>.tup [.int .i64 0,.int .i64 0,.bool false]
structure NmX where
  n:Int
  i:Nat
@[simp] def S_scan_Number:List D→Prop × D:=spec2 (α:=Str) (β:=Int) (fun s _=>s.length≤1048576) (fun s a=>optN (numV s a))
theorem ct_scan_Number {P:Program} {f g1:Nat} {G:Gam} (h:CodeOf P f 2 10 [2,3,4] (x_scan_Number g1)) (hG:GamOk P G) (h1:G.find g1=some S_scan_digit):Has P f S_scan_Number:=h.has2 hG fun s a hp=>by
  by_cases c1:a<0
  · have e:numV s a=none:=by unfold numV;rw[if_pos c1]
    rw[e]
    simp[x_scan_Number,c1,optN]
  · obtain⟨k,rfl⟩:=Int.eq_ofNat_of_zero_le (show 0≤a by omega)
    cases c2:digB s k with
    | false =>
      have e:numV s (k:Int)=none:=by unfold numV;rw[if_neg c1,Int.toNat_natCast,if_pos c2]
      rw[e]
      simp[x_scan_Number,h1,hp,c1,c2,optN]
    | true =>
      have hk:=digB_lt c2
      have e:numV s (k:Int)=if 2147483647<(numL s (s.length-k) 0 k).1∨(s.getD k 0=48∧k+1<(numL s (s.length-k) 0 k).2) then none else some (numL s (s.length-k) 0 k):=by
        unfold numV
        rw[if_neg c1,Int.toNat_natCast,if_neg (by rw[c2];simp)]
      have hsk:s.getD k 0=s[k]:=by simp[List.getD,hk]
      rw[hsk] at e
      simp[x_scan_Number,h1,hp,c1,c2]
      refine vc_lp (σ:=NmX) (fun x=>k≤x.i∧x.i≤s.length∧0≤x.n∧x.n≤2147483648∧numL s (s.length-x.i) x.n x.i=numL s (s.length-k) 0 k) (fun x=>s.length-x.i)
        (fun x=>[.d (.str s),.d (.int .i64 k),.any,.any,.any,.d (.int .i64 x.n),.d (.int .i64 x.i),.any,.any,.any]) (fun _=>[]) ⟨0,k⟩ (by simp) (by simp) ⟨by simp,by simp;omega,by simp,by simp,rfl⟩ ?_
      rintro⟨n,i⟩ ⟨q1,q2,q3,q4,q5⟩
      simp only at q1 q2 q3 q4 q5
      cases c3:digB s i with
      | true =>
        have hi:=digB_lt c3
        have hsi:s.getD i 0=s[i]:=by simp[List.getD,hi]
        have h48:48≤s[i].toNat∧s[i].toNat≤57:=by
          unfold digB at c3
          rw[List.getElem?_eq_getElem hi] at c3
          simpa using c3
        have hst:=numL_step (f:=s.length-i) (n:=n) (by omega) c3
        rw[hsi] at hst
        have w1:IntKind.i64.wrap ((i:Int)+1)=(i:Int)+1:=wrap_in (by omega) (by omega)
        have w2:IntKind.i64.wrap (10 * n)=10 * n:=wrap_in (by omega) (by omega)
        have w3:IntKind.u8.wrap ((s[i].toNat:Int)-48)=(s[i].toNat:Int)-48:=IntWalk.u8_in _ ⟨by omega,by omega⟩
        have w4:IntKind.i64.wrap ((s[i].toNat:Int)-48)=(s[i].toNat:Int)-48:=wrap_in (by omega) (by omega)
        have w5:IntKind.i64.wrap (10 * n+((s[i].toNat:Int)-48))=10 * n+((s[i].toNat:Int)-48):=wrap_in (by omega) (by omega)
        simp[h1,hp,c3,hi,w1,w2,w3,w4,w5]
        exact Nxt.mk (⟨min (10 * n+((s[i].toNat:Int)-48)) 2147483648,i+1⟩:NmX) (by simp only;omega) (by simp) (by simp) ⟨by simp only;omega,by simp only;omega,by simp only;omega,by simp only;omega,by rw[← q5,hst];rfl⟩
      | false =>
        rw[numL_end c3] at q5
        rw[← q5] at e
        simp only at e
        have w1:IntKind.i64.wrap ((k:Int)+1)=(k:Int)+1:=wrap_in (by omega) (by omega)
        by_cases c4:2147483647<n
        · rw[if_pos (.inl c4)] at e
          rw[e]
          simp[h1,hp,c3,c4,optN]
        · by_cases c5:s[k]=48
          · by_cases c6:k+1<i
            · rw[if_pos (.inr ⟨c5,c6⟩)] at e
              rw[e]
              simp[h1,hp,c3,c4,hk,c5,w1,show (k:Int)+1<i by omega,optN]
            · rw[if_neg (by rintro (h | ⟨_,h⟩) <;> omega)] at e
              rw[e]
              simp[h1,hp,c3,c4,hk,c5,w1,show ¬(k:Int)+1<i by omega,optN]
          · have c5':¬(s[k].toNat:Int)=48:=fun h=>c5 (UInt8.toNat_inj.1 (show s[k].toNat=(48:UInt8).toNat from by have:(48:UInt8).toNat=48:=rfl;omega))
            rw[if_neg (by rintro (h | ⟨h,_⟩);exact c4 h;exact c5 h)] at e
            rw[e]
            simp[h1,hp,c3,c4,hk,c5',optN]
def rangeV (s:Str) (a:Int):Option (Int × Int × Nat):=match numV s a with
  | none=>none
  | some (n,e)=>rangeC s a n e (if s.getD e 0=44∧e<s.length then numV s ((e:Int)+1) else some (1,e))
where rangeC (s:Str) (a n:Int) (e:Nat):Option (Int × Nat)→Option (Int × Int × Nat)
  | none=>none
  | some (c,e2)=>if frangeV (if 0<c then n-1 else n) c=(s.drop a.toNat).take (e2-a.toNat) then some (if 0<c then n-1 else n,c,e2) else none
def optR (o:Option (Int × Int × Nat)):D:=match o with
  | some x=>.tup [.int .i64 x.1,.int .i64 x.2.1,.int .i64 x.2.2,.bool true]
  | none=>.tup [.int .i64 0,.int .i64 0,.int .i64 0,.bool false]
theorem range_tail {s:Str} {k e e2:Nat} {n c:Int} (h1:k≤e2):rangeV.rangeC s (k:Int) n e (some (c,e2))=if frangeV (if 0<c then n-1 else n) c=(s.drop k).take (e2-k) then some (if 0<c then n-1 else n,c,e2) else none:=by
  unfold rangeV.rangeC
  rw[Int.toNat_natCast]
@[simp] def S_scan_Range:List D→Prop × D:=spec2 (α:=Str) (β:=Int) (fun s _=>s.length≤1048576) (fun s a=>optR (rangeV s a))
theorem ct_scan_Range {P:Program} {f g1 g2:Nat} {G:Gam} (h:CodeOf P f 2 15 [2,3,4,5] (x_scan_Range g1 g2)) (hG:GamOk P G) (h1:G.find g1=some S_scan_Number) (h2:G.find g2=some S_scan_FormatRange):Has P f S_scan_Range:=h.has2 hG fun s a hp=>by
  cases hn:numV s a with
  | none =>
    have e:rangeV s a=none:=by unfold rangeV;rw[hn]
    rw[e]
    simp[x_scan_Range,h1,hp,hn,optN,optR]
  | some x =>
    obtain⟨n,e⟩:=x
    obtain⟨a0,n0,n1,ae,el⟩:=numV_rng hn
    simp only at n0 n1 ae el
    obtain⟨k,rfl⟩:=Int.eq_ofNat_of_zero_le a0
    simp only[Int.toNat_natCast] at ae
    have hr:rangeV s (k:Int)=rangeV.rangeC s k n e (if s.getD e 0=44∧e<s.length then numV s ((e:Int)+1) else some (1,e)):=by
      unfold rangeV
      rw[hn]
    have w1:IntKind.i64.wrap ((e:Int)+1)=(e:Int)+1:=wrap_in (by omega) (by omega)
    have w2:IntKind.i64.wrap (n-1)=n-1:=wrap_in (by omega) (by omega)
    have step:∀(c:Int) (e2:Nat),0≤c→k≤e2→rangeV s (k:Int)=rangeV.rangeC s k n e (some (c,e2)) →
        (0<c∧rangeV s (k:Int)=if frangeV (n-1) c=(s.drop k).take (e2-k) then some (n-1,c,e2) else none)∨(¬0<c∧rangeV s (k:Int)=if frangeV n c=(s.drop k).take (e2-k) then some (n,c,e2) else none):=fun c e2 h1 h2 h3=>by
      rw[range_tail h2] at h3
      by_cases hc:0<c
      · rw[if_pos hc] at h3;exact .inl ⟨hc,h3⟩
      · rw[if_neg hc] at h3;exact .inr ⟨hc,h3⟩
    by_cases hc:e<s.length
    · have hse:s.getD e 0=s[e]:=by simp[List.getD,hc]
      by_cases h44:s[e]=44
      · rw[if_pos ⟨by rw[hse];exact h44,hc⟩] at hr
        cases hn2:numV s ((e:Int)+1) with
        | none =>
          rw[hn2] at hr
          have hr:rangeV s (k:Int)=none:=hr
          rw[hr]
          simp[x_scan_Range,h1,hp,hn,optN,hc,h44,w1,hn2,optR]
        | some y =>
          obtain⟨c,e2⟩:=y
          obtain⟨_,c0,c1,_,e2l⟩:=numV_rng hn2
          have hae:=(numV_rng hn2).2.2.2.1
          simp only at c0 c1 e2l hae
          rw[hn2] at hr
          rcases step c e2 c0 (by omega) hr with ⟨hcp,hr⟩ | ⟨hcp,hr⟩
          · by_cases hfr:frangeV (n-1) c=(s.drop k).take (e2-k)
            · rw[if_pos hfr] at hr
              rw[hr]
              simp[x_scan_Range,h1,h2,hp,hn,optN,hc,h44,w1,w2,hn2,hcp,hfr,optR,show k≤e2 by omega,e2l]
            · rw[if_neg hfr] at hr
              rw[hr]
              simp[x_scan_Range,h1,h2,hp,hn,optN,hc,h44,w1,w2,hn2,hcp,hfr,optR,show k≤e2 by omega,e2l]
          · by_cases hfr:frangeV n c=(s.drop k).take (e2-k)
            · rw[if_pos hfr] at hr
              rw[hr]
              simp[x_scan_Range,h1,h2,hp,hn,optN,hc,h44,w1,w2,hn2,hcp,hfr,optR,show k≤e2 by omega,e2l]
            · rw[if_neg hfr] at hr
              rw[hr]
              simp[x_scan_Range,h1,h2,hp,hn,optN,hc,h44,w1,w2,hn2,hcp,hfr,optR,show k≤e2 by omega,e2l]
      · have h44':¬(s[e].toNat:Int)=44:=fun h=>h44 (UInt8.toNat_inj.1 (show s[e].toNat=(44:UInt8).toNat from by have:(44:UInt8).toNat=44:=rfl;omega))
        rw[if_neg (by rintro⟨h,_⟩;rw[hse] at h;exact h44 h)] at hr
        rcases step 1 e (by omega) ae hr with ⟨hcp,hr⟩ | ⟨hcp,hr⟩
        · by_cases hfr:frangeV (n-1) 1=(s.drop k).take (e-k)
          · rw[if_pos hfr] at hr
            rw[hr]
            simp[x_scan_Range,h1,h2,hp,hn,optN,hc,h44',w2,hfr,optR,ae,el]
          · rw[if_neg hfr] at hr
            rw[hr]
            simp[x_scan_Range,h1,h2,hp,hn,optN,hc,h44',w2,hfr,optR,ae,el]
        · omega
    · rw[if_neg (fun h=>hc h.2)] at hr
      rcases step 1 e (by omega) ae hr with ⟨hcp,hr⟩ | ⟨hcp,hr⟩
      · by_cases hfr:frangeV (n-1) 1=(s.drop k).take (e-k)
        · rw[if_pos hfr] at hr
          rw[hr]
          simp[x_scan_Range,h1,h2,hp,hn,optN,hc,w2,hfr,optR,ae,el]
        · rw[if_neg hfr] at hr
          rw[hr]
          simp[x_scan_Range,h1,h2,hp,hn,optN,hc,w2,hfr,optR,ae,el]
      · omega
@[simp] def S_scan_plain:List D→Prop × D:=spec1 (α:=U8T) (fun c=>0≤c.n∧c.n≤255) (fun c=>.bool (plainB (UInt8.ofNat c.n.toNat)))
theorem ct_scan_plain {P:Program} {f:Nat} {G:Gam} (h:CodeOf P f 1 2 [1] x_scan_plain) (hG:GamOk P G):Has P f S_scan_plain:=h.has1 hG fun c hp=>by
  obtain⟨n⟩:=c
  obtain⟨p1,p2⟩:=hp
  simp only at p1 p2
  obtain⟨k,rfl⟩:=Int.eq_ofNat_of_zero_le p1
  have hk:k<256:=by omega
  have e:plainB (UInt8.ofNat k)=(decide (33≤k) && decide (k≤126) && decide (k≠34) && decide (k≠92)):=by
    have:∀k:_root_.Fin 256,plainB (UInt8.ofNat k.val)=(decide (33≤k.val) && decide (k.val≤126) && decide (k.val≠34) && decide (k.val≠92)):=by decide +kernel
    exact this ⟨k,hk⟩
  simp only[Int.toNat_natCast,e]
  by_cases c1:33≤k
  · by_cases c2:k≤126
    · by_cases c3:k=34
      · subst c3;simp[x_scan_plain]
      · by_cases c4:k=92
        · subst c4;simp[x_scan_plain]
        · simp[x_scan_plain,c1,c2,c3,c4,show (33:Int)≤(k:Int) by omega,show (k:Int)≤126 by omega,show ¬(k:Int)=34 by omega,show ¬(k:Int)=92 by omega]
    · simp[x_scan_plain,c1,c2,show (33:Int)≤(k:Int) by omega,show ¬(k:Int)≤126 by omega]
  · simp[x_scan_plain,c1,show ¬(33:Int)≤(k:Int) by omega]
structure RdX where
  s:Str
  i:Nat
@[simp] def rdS (s:Str) (i:Nat):Store:=[.cells 0 2 [.agg [.d (.str s),.d (.int .i64 i)]]]
@[simp] def F_scan_reader_octal:RF RdX where
  new:=0
  view _ st:=⟨((st.getD 0 .dead).at 0 0).gs,((st.getD 0 .dead).at 0 1).gi.toNat⟩
  args _:=[.ref 0 0 0 0]
  st x:=rdS x.s x.i
  pre x:=x.s.length≤1048576∧x.i≤x.s.length
  res x:=.tup [.d (.int .u8 (octV x.s x.i).1.1.toNat),.d (.bool (octV x.s x.i).1.2)]
  st' x:=rdS x.s (octV x.s x.i).2
abbrev R_scan_reader_octal:RSpec:=F_scan_reader_octal.spec
structure OcX where
  k:Nat
  n:Nat
  j:Nat
theorem ct_scan_reader_octal {P:Program} {f:Nat} {G:Gam} (hc:CodeOf P f 1 7 [1,2] x_scan_reader_octal) (hG:GamOk P G):RSpec.Ok P f R_scan_reader_octal:=by
  refine RF.ok hc.call fun x hx=>hc.rcalls hG rfl ?_
  obtain⟨s,i⟩:=x
  obtain⟨p1,p2⟩:=hx
  simp only at p1 p2
  simp[x_scan_reader_octal,startA]
  refine vc_lp (σ:=OcX) (fun x=>x.k≤3∧x.j≤s.length∧x.n<8 ^ x.k∧octL s (3-x.k) x.n x.j=octL s 3 0 i) (fun x=>3-x.k)
    (fun x=>[.ref 0 0 0 0,.any,.any,.d (.int .i64 x.n),.d (.int .i64 x.k),.any,.any])
    (fun x=>rdS s x.j) ⟨0,0,i⟩ (by simp) (by simp) ⟨by simp,p2,by simp,rfl⟩ ?_
  rintro⟨k,n,j⟩ ⟨q1,q2,q3,q4⟩
  simp only at q1 q2 q3 q4
  by_cases hk:k<3
  · have w1:IntKind.i64.wrap ((k:Int)+1)=(k:Int)+1:=wrap_in (by omega) (by omega)
    rw[show 3-k=(3-(k+1))+1 by omega,octL] at q4
    have hp8:8 ^ k≤64:=by
      have:k=0∨k=1∨k=2:=by omega
      rcases this with rfl | rfl | rfl <;> decide
    cases c1:octB s j with
    | true =>
      have hj:=octB_lt c1
      have hsj:s.getD j 0=s[j]:=by simp[List.getD,hj]
      rw[if_pos c1,hsj] at q4
      have h48:48≤s[j].toNat∧s[j].toNat≤55:=by
        unfold octB at c1
        rw[List.getElem?_eq_getElem hj] at c1
        simpa using c1
      have w2:IntKind.i64.wrap ((j:Int)+1)=(j:Int)+1:=wrap_in (by omega) (by omega)
      have w3:IntKind.u8.wrap ((s[j].toNat:Int)-48)=(s[j].toNat:Int)-48:=IntWalk.u8_in _ ⟨by omega,by omega⟩
      have w4:IntKind.i64.wrap ((s[j].toNat:Int)-48)=(s[j].toNat:Int)-48:=wrap_in (by omega) (by omega)
      have w5:IntKind.i64.wrap (8 * (n:Int))=8 * (n:Int):=wrap_in (by omega) (by omega)
      have w6:IntKind.i64.wrap (8 * (n:Int)+((s[j].toNat:Int)-48))=((8 * n+(s[j].toNat-48):Nat):Int):=by rw[wrap_in (by omega) (by omega)];omega
      have hpow:8 ^ (k+1)=8 * 8 ^ k:=by rw[Nat.pow_succ];omega
      simp[show (k:Int)<3 by omega,hj,show ¬s.length≤j by omega,show ¬(s[j].toNat:Int)<48 by omega,show ¬(55:Int)<(s[j].toNat:Int) by omega,w1,w2,w3,w4,w5,w6]
      exact Nxt.mk (⟨k+1,8 * n+(s[j].toNat-48),j+1⟩:OcX) (by simp only;omega) (by simp) (by simp) ⟨by simp only;omega,by simp only;omega,by simp only[hpow];omega,q4⟩
    | false =>
      rw[if_neg (by rw[c1];simp)] at q4
      have hv:octV s i=((0,false),j):=by unfold octV;rw[← q4]
      simp only[F_scan_reader_octal,hv]
      by_cases hj:j<s.length
      · have hb:¬(48≤s[j].toNat∧s[j].toNat≤55):=by
          unfold octB at c1
          rw[List.getElem?_eq_getElem hj] at c1
          simp at c1
          omega
        by_cases c2:s[j].toNat<48
        · simp[show (k:Int)<3 by omega,hj,show ¬s.length≤j by omega,show (s[j].toNat:Int)<48 by omega]
          exact FinR.done (by simp) (by simp) rfl (by simp[resOf,resE]) (by simp) (by simp)
        · simp[show (k:Int)<3 by omega,hj,show ¬s.length≤j by omega,show ¬(s[j].toNat:Int)<48 by omega,show (55:Int)<(s[j].toNat:Int) by omega]
          exact FinR.done (by simp) (by simp) rfl (by simp[resOf,resE]) (by simp) (by simp)
      · simp[show (k:Int)<3 by omega,hj,show s.length≤j by omega]
        exact FinR.done (by simp) (by simp) rfl (by simp[resOf,resE]) (by simp) (by simp)
  · have h9:k=3:=by omega
    subst h9
    have hv:octV s i=((UInt8.ofNat n,decide (n<256)),j):=by unfold octV;rw[← q4];rfl
    have w7:IntKind.u8.wrap (n:Int)=(((UInt8.ofNat n).toNat:Nat):Int):=by rw[IntKind.wrap_u8];simp
    simp only[F_scan_reader_octal,hv]
    simp[w7]
    exact FinR.done (by simp) (by simp) rfl (by simp[resOf,resE] <;> omega) (by simp) (by simp)
@[simp] def F_scan_reader_escape:RF RdX where
  new:=0
  view _ st:=⟨((st.getD 0 .dead).at 0 0).gs,((st.getD 0 .dead).at 0 1).gi.toNat⟩
  args _:=[.ref 0 0 0 0]
  st x:=rdS x.s x.i
  pre x:=x.s.length≤1048576∧x.i≤x.s.length
  res x:=.tup [.d (.int .u8 (escpV x.s x.i).1.1.toNat),.d (.bool (escpV x.s x.i).1.2)]
  st' x:=rdS x.s (escpV x.s x.i).2
abbrev R_scan_reader_escape:RSpec:=F_scan_reader_escape.spec
theorem u8_ne {a b:UInt8} (h:a≠b):¬(a.toNat:Int)=(b.toNat:Int):=fun e=>h (UInt8.toNat_inj.1 (by omega))
theorem ct_scan_reader_escape {P:Program} {f g1:Nat} {G:Gam} (hc:CodeOf P f 1 9 [1,2] (x_scan_reader_escape g1)) (hG:GamOk P G) (h1:G.findR g1=some R_scan_reader_octal):RSpec.Ok P f R_scan_reader_escape:=by
  refine RF.ok hc.call fun x hx=>hc.rcalls hG rfl ?_
  obtain⟨s,i⟩:=x
  obtain⟨p1,p2⟩:=hx
  simp only at p1 p2
  by_cases hi:i<s.length
  · have hsi:s[i]?=some s[i]:=List.getElem?_eq_getElem hi
    have hv:escpV s i=if s[i]=34∨s[i]=92 then ((s[i],true),i+1) else if s[i]=110 then ((10,true),i+1) else if s[i]=116 then ((9,true),i+1) else octV s i:=by unfold escpV;rw[hsi]
    have w2:IntKind.i64.wrap ((i:Int)+1)=(i:Int)+1:=wrap_in (by omega) (by omega)
    simp only[F_scan_reader_escape]
    by_cases c1:s[i]=34
    · rw[if_pos (.inl c1)] at hv
      rw[hv]
      simp[x_scan_reader_escape,startA,hi,show ¬s.length≤i by omega,c1,w2]
      exact FinR.done (by simp) (by simp) rfl (by simp[resOf,resE]) (by simp) (by simp)
    · have d1:=u8_ne c1
      by_cases c2:s[i]=92
      · rw[if_pos (.inr c2)] at hv
        rw[hv]
        simp[x_scan_reader_escape,startA,hi,show ¬s.length≤i by omega,c2,w2]
        exact FinR.done (by simp) (by simp) rfl (by simp[resOf,resE]) (by simp) (by simp)
      · have d2:=u8_ne c2
        rw[if_neg (by rintro (h | h);exact c1 h;exact c2 h)] at hv
        by_cases c3:s[i]=110
        · rw[if_pos c3] at hv
          rw[hv]
          simp[x_scan_reader_escape,startA,hi,show ¬s.length≤i by omega,c3,w2]
          exact FinR.done (by simp) (by simp) rfl (by simp[resOf,resE]) (by simp) (by simp)
        · have d3:=u8_ne c3
          rw[if_neg c3] at hv
          by_cases c4:s[i]=116
          · rw[if_pos c4] at hv
            rw[hv]
            simp[x_scan_reader_escape,startA,hi,show ¬s.length≤i by omega,c4,w2]
            exact FinR.done (by simp) (by simp) rfl (by simp[resOf,resE]) (by simp) (by simp)
          · have d4:=u8_ne c4
            rw[if_neg c4] at hv
            rw[hv]
            simp at d1 d2 d3 d4
            simp[x_scan_reader_escape,startA,hi,show ¬s.length≤i by omega,d1,d2,d3,d4,eRCall,h1,p1,p2]
            exact FinR.done (by simp) (by simp) rfl (by simp[resOf,resE]) (by simp) (by simp)
  · have hv:escpV s i=((0,false),i):=by unfold escpV;rw[List.getElem?_eq_none (by omega)]
    simp only[F_scan_reader_escape,hv]
    simp[x_scan_reader_escape,startA,hi,show s.length≤i by omega]
    exact FinR.done (by simp) (by simp) rfl (by simp[resOf,resE]) (by simp) (by simp)
@[simp] def F_scan_reader_quoted:RF RdX where
  new:=0
  view _ st:=⟨((st.getD 0 .dead).at 0 0).gs,((st.getD 0 .dead).at 0 1).gi.toNat⟩
  args _:=[.ref 0 0 0 0]
  st x:=rdS x.s x.i
  pre x:=x.s.length≤1048576∧x.i≤x.s.length
  res x:=.tup [.d (.str ((quotV x.s x.i).1.getD [])),.d (.bool (quotV x.s x.i).1.isSome)]
  st' x:=rdS x.s (quotV x.s x.i).2
abbrev R_scan_reader_quoted:RSpec:=F_scan_reader_quoted.spec
structure QuX where
  b:Str
  j:Nat
theorem bytesD_one (s:Str) (c:UInt8):bytesD s++[.int .u8 c.toNat]=bytesD (s++[c]):=by simp[bytesD]
theorem ct_scan_reader_quoted {P:Program} {f g1:Nat} {G:Gam} (hc:CodeOf P f 1 10 [1,2] (x_scan_reader_quoted g1)) (hG:GamOk P G) (h1:G.findR g1=some R_scan_reader_escape):RSpec.Ok P f R_scan_reader_quoted:=by
  refine RF.ok hc.call fun x hx=>hc.rcalls hG rfl ?_
  obtain⟨s,i⟩:=x
  obtain⟨p1,p2⟩:=hx
  simp only at p1 p2
  simp[x_scan_reader_quoted,startA]
  refine vc_lp (σ:=QuX) (fun x=>x.j≤s.length∧x.b.length≤x.j∧quotL s (s.length-x.j+1) x.b x.j=quotV s i) (fun x=>s.length-x.j)
    (fun x=>[.ref 0 0 0 0,.any,.any,.gr 1 1 (bytesD x.b),.any,.any,.any,.any,.any,.any])
    (fun x=>[.cells 0 2 [.agg [.d (.str s),.d (.int .i64 x.j)]],.tip x.b.length]) ⟨[],i⟩ (by simp[bytesD]) (by simp) ⟨p2,by simp,rfl⟩ ?_
  rintro⟨b,j⟩ ⟨q1,q2,q3⟩
  simp only at q1 q2 q3
  have hbl:=bytesD_len b
  by_cases hj:j<s.length
  · have hsj:s[j]?=some s[j]:=List.getElem?_eq_getElem hj
    have w2:IntKind.i64.wrap ((j:Int)+1)=(j:Int)+1:=wrap_in (by omega) (by omega)
    rw[quotL,hsj] at q3
    simp only at q3
    by_cases c1:s[j]=34
    · rw[if_pos c1] at q3
      simp only[F_scan_reader_quoted,← q3]
      simp[hj,c1,w2]
      exact FinR.done (by simp) (by simp) rfl (by simp[resOf,resE]) (by simp) (by simp)
    · have d1:=u8_ne c1
      rw[if_neg c1] at q3
      simp at d1
      by_cases c2:s[j]=92
      · rw[if_pos c2] at q3
        have hr:=escpV_rng (s:=s) (i:=j+1) (by omega)
        generalize hx:escpV s (j+1)=x at *
        obtain⟨⟨c,ok⟩,j2⟩:=x
        simp only at q3 hr
        have hone:=bytesD_one b c
        cases ok with
        | true =>
          rw[if_pos rfl,quotL_fuel _ (s.length-j2+1) _ _ hr.2 (by omega) (by omega)] at q3
          generalize bytesD b=bd at *
          simp[hj,c2,w2,eRCall,h1,p1,show j+1≤s.length by omega,hx,hbl,hone]
          exact⟨by unfold room;omega,Nxt.mk (⟨b++[c],j2⟩:QuX) (by simp only;omega) (by simp) (by simp[hbl]) ⟨hr.2,by simp;omega,q3⟩⟩
        | false =>
          rw[if_neg (by simp)] at q3
          simp only[F_scan_reader_quoted,← q3]
          simp[hj,c2,w2,eRCall,h1,p1,show j+1≤s.length by omega,hx]
          exact FinR.done (by simp) (by simp) rfl (by simp[resOf,resE]) (by simp) (by simp)
      · have d2:=u8_ne c2
        simp at d2
        rw[if_neg c2,quotL_fuel _ (s.length-(j+1)+1) _ _ (by omega) (by omega) (by omega)] at q3
        have hone:=bytesD_one b s[j]
        generalize bytesD b=bd at *
        simp[hj,d1,d2,w2,hbl,hone]
        exact⟨by unfold room;omega,Nxt.mk (⟨b++[s[j]],j+1⟩:QuX) (by simp only;omega) (by simp) (by simp[hbl]) ⟨by simp only;omega,by simp;omega,q3⟩⟩
  · have h9:j=s.length:=by omega
    subst h9
    rw[quotL,List.getElem?_eq_none (Nat.le_refl _)] at q3
    simp only at q3
    simp only[F_scan_reader_quoted,← q3]
    simp
    exact FinR.done (by simp) (by simp) rfl (by simp[resOf,resE]) (by simp) (by simp)
theorem eB2s_sl (s:Store) (t:Str):eB2s s (.d (.sl 1 (bytesD t)))=⟨True,[],.d (.str t)⟩:=by
  have h:=eB2s_gr s 0 t
  unfold eB2s at h ⊢
  exact h
theorem esc_digits:∀k:_root_.Fin 256,IntKind.u8.wrap (48+((k.val:Nat):Int).fdiv (2 ^ min 6 IntKind.u8.bits))=((UInt8.ofNat (48+k.val / 64):UInt8).toNat:Int) ∧
    IntKind.u8.wrap (48+IntKind.u8.wrap (((((k.val:Nat):Int).fdiv (2 ^ min 3 IntKind.u8.bits) % 2 ^ IntKind.u8.bits).toNat &&& 7 % 2 ^ IntKind.u8.bits:Nat):Int))=((UInt8.ofNat (48+k.val / 8 % 8):UInt8).toNat:Int) ∧
    IntKind.u8.wrap (48+IntKind.u8.wrap ((k.val % 2 ^ IntKind.u8.bits &&& 7 % 2 ^ IntKind.u8.bits:Nat):Int))=((UInt8.ofNat (48+k.val % 8):UInt8).toNat:Int):=by decide +kernel
@[simp] def S_scan_escaped:List D→Prop × D:=spec1 (α:=U8T) (fun c=>0≤c.n∧c.n≤255) (fun c=>.str (escV (UInt8.ofNat c.n.toNat)))
theorem ct_scan_escaped {P:Program} {f:Nat} {G:Gam} (h:CodeOf P f 1 6 [1] x_scan_escaped) (hG:GamOk P G):Has P f S_scan_escaped:=h.has1 hG fun c hp=>by
  obtain⟨n⟩:=c
  obtain⟨p1,p2⟩:=hp
  simp only at p1 p2
  obtain⟨k,rfl⟩:=Int.eq_ofNat_of_zero_le p1
  have hk:k<256:=by omega
  obtain⟨d1,d2,d3⟩:=esc_digits ⟨k,hk⟩
  have d4:=fun s=>eB2s_sl s [UInt8.ofNat (48+k / 64),UInt8.ofNat (48+k / 8 % 8),UInt8.ofNat (48+k % 8)]
  simp only[bytesD,List.map_cons,List.map_nil] at d4
  have ne:∀(m:Nat),m<256→(UInt8.ofNat k=UInt8.ofNat m↔k=m):=fun m hm=>by
    constructor
    · intro h
      have:=congrArg UInt8.toNat h
      rw[UInt8.toNat_ofNat',UInt8.toNat_ofNat'] at this
      omega
    · rintro rfl;rfl
  have ht:(UInt8.ofNat k).toNat=k:=by rw[UInt8.toNat_ofNat'];omega
  simp only[Int.toNat_natCast]
  have e:escV (UInt8.ofNat k)=if k=34∨k=92 then [92,UInt8.ofNat k] else if k=10 then [92,110] else if k=9 then [92,116] else
    if k<32∨126<k then [92,UInt8.ofNat (48+k / 64),UInt8.ofNat (48+k / 8 % 8),UInt8.ofNat (48+k % 8)] else [UInt8.ofNat k]:=by
    unfold escV
    rw[ht]
    have:=ne 34 (by omega)
    have:=ne 92 (by omega)
    have:=ne 10 (by omega)
    have:=ne 9 (by omega)
    simp only[show (34:UInt8)=UInt8.ofNat 34 from rfl,show (92:UInt8)=UInt8.ofNat 92 from rfl,show (10:UInt8)=UInt8.ofNat 10 from rfl,show (9:UInt8)=UInt8.ofNat 9 from rfl,ne _ (show 34<256 by omega),ne _ (show 92<256 by omega),ne _ (show 10<256 by omega),ne _ (show 9<256 by omega)]
  simp only at d1 d2 d3
  generalize UInt8.ofNat (48+k / 64)=a1 at *
  generalize UInt8.ofNat (48+k / 8 % 8)=a2 at *
  generalize UInt8.ofNat (48+k % 8)=a3 at *
  by_cases c1:k=34
  · subst c1
    rw[if_pos (.inl rfl)] at e
    rw[e]
    simp[x_scan_escaped,eI2s]
  · by_cases c2:k=92
    · subst c2
      rw[if_pos (.inr rfl)] at e
      rw[e]
      simp[x_scan_escaped,eI2s]
    · rw[if_neg (by omega)] at e
      by_cases c3:k=10
      · subst c3
        rw[if_pos rfl] at e
        rw[e]
        simp[x_scan_escaped,eI2s]
      · rw[if_neg c3] at e
        by_cases c4:k=9
        · subst c4
          rw[if_pos rfl] at e
          rw[e]
          simp[x_scan_escaped,eI2s]
        · rw[if_neg c4] at e
          by_cases c5:k<32∨126<k
          · rw[if_pos c5] at e
            rw[e]
            by_cases c6:k<32
            · simp[x_scan_escaped,eI2s,show ¬(k:Int)=34 by omega,show ¬(k:Int)=92 by omega,show ¬(k:Int)=10 by omega,show ¬(k:Int)=9 by omega,show (k:Int)<32 by omega,d1,d2,d3,d4]
            · simp[x_scan_escaped,eI2s,show ¬(k:Int)=34 by omega,show ¬(k:Int)=92 by omega,show ¬(k:Int)=10 by omega,show ¬(k:Int)=9 by omega,show ¬(k:Int)<32 by omega,show 126<(k:Int) by omega,d1,d2,d3,d4]
          · rw[if_neg c5] at e
            rw[e]
            simp[x_scan_escaped,eI2s,show ¬(k:Int)=34 by omega,show ¬(k:Int)=92 by omega,show ¬(k:Int)=10 by omega,show ¬(k:Int)=9 by omega,show ¬(k:Int)<32 by omega,show ¬126<(k:Int) by omega]
            omega
theorem esc_len (c:UInt8):(escV c).length≤4:=by
  unfold escV
  split
  · simp
  · split
    · simp
    · split
      · simp
      · split <;> simp
theorem esc_lens:∀s:Str,(s.flatMap escV).length≤4 * s.length
  | []=>by simp
  | c::s=>by
    have:=esc_lens s
    have:=esc_len c
    simp only[List.flatMap_cons,List.length_append,List.length_cons]
    omega
theorem quote_len (s:Str):(quoteV s).length≤4 * s.length+2:=by
  unfold quoteV
  split
  · omega
  · have:=esc_lens s
    simp only[List.length_append,List.length_singleton]
    omega
def qbS (s:Str) (i:Nat):Str:=34::(s.take i).flatMap escV
theorem qbS_succ {s:Str} {i:Nat} (h:i<s.length):qbS s i++escV s[i]=qbS s (i+1):=by
  unfold qbS
  rw[List.take_succ_eq_append_getElem h,List.flatMap_append]
  simp only[List.flatMap_cons,List.flatMap_nil,List.append_nil,List.cons_append]
theorem qbS_len (s:Str) (i:Nat):(qbS s i).length≤4 * s.length+1:=by
  unfold qbS
  have:=esc_lens (s.take i)
  simp only[List.length_take,List.length_cons] at this ⊢
  omega
def barS (s:Str) (i:Nat):Bool:=decide (s≠[]) && (s.take i).all plainB
theorem barS_succ {s:Str} {i:Nat} (h:i<s.length):barS s (i+1)=(barS s i && plainB s[i]):=by
  unfold barS
  rw[List.take_succ_eq_append_getElem h,List.all_append,Bool.and_assoc]
  simp only[List.all_cons,List.all_nil,Bool.and_true]
@[simp] def S_scan_Quote:List D→Prop × D:=spec1 (α:=Str) (fun s=>s.length≤4194304) (fun s=>.str (quoteV s))
theorem ct_scan_Quote {P:Program} {f g1 g2 g3 g4 g5:Nat} {G:Gam} (h:CodeOf P f 1 13 [1] (x_scan_Quote g1 g2 g3 g4 g5)) (hG:GamOk P G) (h1:G.find g1=some S_scan_plain) (h2:G.find g2=some S_scan_escaped) (h3:G.findR g3=some R___strings_Builder__WriteByte) (h4:G.findR g4=some R___strings_Builder__WriteString) (h5:G.findR g5=some R___strings_Builder__String):Has P f S_scan_Quote:=h.has1 hG fun s hp=>by
  have u8:∀c:UInt8,UInt8.ofNat c.toNat=c:=fun c=>by simp
  have u8b:∀c:UInt8,(c.toNat:Int)≤255:=fun c=>by have:=c.toNat_lt;omega
  simp[x_scan_Quote]
  refine vc_lp (σ:=Nat) (fun i=>i≤s.length) (fun i=>s.length-i) (fun i=>[.d (.str s),.any,.d (.bool (barS s i)),.any,.any,.any,.d (.int .i64 s.length),.d (.int .i64 i),.any,.any,.any,.any,.any]) (fun _=>[]) 0 (by simp[barS]) (by simp) (by simp) ?_
  intro i i1
  by_cases hi:i<s.length
  · have w1:IntKind.i64.wrap ((i:Int)+1)=(i:Int)+1:=wrap_in (by omega) (by omega)
    have hb:=barS_succ hi
    cases c:barS s i with
    | true =>
      rw[c,Bool.true_and] at hb
      simp[hi,h1,u8b,w1]
      exact Nxt.mk (i+1) (by omega) (by simp[hb]) (by simp) (by omega)
    | false =>
      rw[c,Bool.false_and] at hb
      simp[hi,w1]
      exact Nxt.mk (i+1) (by omega) (by simp[hb]) (by simp) (by omega)
  · have hbare:barS s i=bareB s:=by
      unfold barS bareB
      rw[List.take_of_length_le (by omega)]
    rw[hbare]
    cases c:bareB s with
    | true =>
      have e:quoteV s=s:=by unfold quoteV;rw[if_pos c]
      rw[e]
      simp[hi]
    | false =>
      have e:quoteV s=qbS s s.length++[34]:=by unfold quoteV qbS;rw[if_neg (by rw[c];simp),List.take_of_length_le (Nat.le_refl _)];rfl
      rw[e]
      simp[hi,eRCall,h3]
      refine vc_lp (σ:=Nat) (fun i=>i≤s.length) (fun i=>s.length-i) (fun i=>[.d (.str s),.any,.any,.any,.ref 0 0 0 0,.any,.any,.any,.any,.any,.d (.int .i64 s.length),.d (.int .i64 i),.any]) (fun i=>buS (qbS s i)) 0 (by simp) (by simp[qbS]) (by simp) ?_
      intro i i1
      have hl:=qbS_len s i
      by_cases hi:i<s.length
      · have w1:IntKind.i64.wrap ((i:Int)+1)=(i:Int)+1:=wrap_in (by omega) (by omega)
        have he:=esc_len s[i]
        have hq:=qbS_succ hi
        simp[hi,h2,u8b,w1,eRCall,h4,hq]
        exact⟨by omega,Nxt.mk (i+1) (by omega) (by simp) (by simp[← hq]) (by omega)⟩
      · have:i=s.length:=by omega
        subst this
        simp[eRCall,h3,h5]
        omega
theorem quotL_rng {s:Str}:∀(f:Nat) (b:Str) (i:Nat),i≤s.length→i≤(quotL s f b i).2∧(quotL s f b i).2≤s.length∧∀w,(quotL s f b i).1=some w→w.length+i≤b.length+(quotL s f b i).2
  | 0,b,i,h=>⟨Nat.le_refl _,h,fun w hw=>by simp[quotL] at hw⟩
  | f+1,b,i,h=>by
    unfold quotL
    cases hc:s[i]? with
    | none=>exact⟨Nat.le_refl _,h,fun w hw=>by simp at hw⟩
    | some c =>
      have hil:=(List.getElem?_eq_some_iff.1 hc).1
      have he:=escpV_rng (s:=s) (i:=i+1) (by omega)
      simp only
      split
      · refine⟨by simp,by simp only;omega,fun w hw=>?_⟩
        simp at hw
        subst hw
        simp only
        omega
      · split
        · split
          · have:=quotL_rng f (b++[(escpV s (i+1)).1.1]) _ he.2
            refine⟨by omega,this.2.1,fun w hw=>?_⟩
            have:=this.2.2 w hw
            simp at this
            omega
          · exact⟨by simp only;omega,he.2,fun w hw=>by simp at hw⟩
        · have:=quotL_rng (s:=s) f (b++[c]) (i+1) (by omega)
          refine⟨by omega,this.2.1,fun w hw=>?_⟩
          have:=this.2.2 w hw
          simp at this
          omega
theorem quotV_rng {s:Str} {i:Nat} (h:i≤s.length):i≤(quotV s i).2∧(quotV s i).2≤s.length∧∀w,(quotV s i).1=some w→w.length≤s.length:=by
  have:=quotL_rng (s:=s) (s.length-i+1) [] i h
  refine⟨this.1,this.2.1,fun w hw=>?_⟩
  have h1:=this.2.2 w hw
  have h2:=this.2.1
  simp at h1
  omega
def plnE (s:Str):Nat→Nat→Nat
  | 0,i=>i
  | f+1,i=>if i<s.length∧plainB (s.getD i 0)=true then plnE s f (i+1) else i
theorem plnE_rng {s:Str}:∀(f i:Nat),i≤s.length→i≤plnE s f i∧plnE s f i≤s.length
  | 0,i,h=>⟨Nat.le_refl _,h⟩
  | f+1,i,h=>by
    unfold plnE
    split
    · rename_i h2
      have:=plnE_rng (s:=s) f (i+1) (by omega)
      omega
    · exact⟨Nat.le_refl _,h⟩
def cutS (s:Str) (i j:Nat):Str:=(s.drop i).take (j-i)
def wordV (s:Str) (i:Nat):(Str × Bool) × Nat :=
  if s[i]?=some 34 then
    (match (quotV s (i+1)).1 with
    | none=>(([],false),(quotV s (i+1)).2)
    | some w=>((w,decide (quoteV w=cutS s i (quotV s (i+1)).2)),(quotV s (i+1)).2))
  else ((cutS s i (plnE s (s.length-i) i),decide (quoteV (cutS s i (plnE s (s.length-i) i))=cutS s i (plnE s (s.length-i) i))),plnE s (s.length-i) i)
theorem wordV_rng {s:Str} {i:Nat} (h:i≤s.length):i≤(wordV s i).2∧(wordV s i).2≤s.length∧(wordV s i).1.1.length≤s.length:=by
  unfold wordV
  split
  · rename_i h2
    have hi:=(List.getElem?_eq_some_iff.1 h2).1
    have:=quotV_rng (s:=s) (i:=i+1) (by omega)
    split
    · exact⟨by simp only;omega,this.2.1,by simp⟩
    · rename_i w hw
      exact⟨by simp only;omega,this.2.1,this.2.2 w hw⟩
  · have:=plnE_rng (s:=s) (s.length-i) i h
    exact⟨this.1,this.2,by simp[cutS];omega⟩
@[simp] def F_scan_reader_word:RF RdX where
  new:=0
  view _ st:=⟨((st.getD 0 .dead).at 0 0).gs,((st.getD 0 .dead).at 0 1).gi.toNat⟩
  args _:=[.ref 0 0 0 0]
  st x:=rdS x.s x.i
  pre x:=x.s.length≤1048576∧x.i≤x.s.length
  res x:=.tup [.d (.str (wordV x.s x.i).1.1),.d (.bool (wordV x.s x.i).1.2)]
  st' x:=rdS x.s (wordV x.s x.i).2
abbrev R_scan_reader_word:RSpec:=F_scan_reader_word.spec
theorem ct_scan_reader_word {P:Program} {f g1 g2 g3:Nat} {G:Gam} (hc:CodeOf P f 1 9 [1,2] (x_scan_reader_word g1 g2 g3)) (hG:GamOk P G) (h1:G.find g1=some S_scan_plain) (h2:G.find g2=some S_scan_Quote) (h3:G.findR g3=some R_scan_reader_quoted):RSpec.Ok P f R_scan_reader_word:=by
  refine RF.ok hc.call fun x hx=>hc.rcalls hG rfl ?_
  obtain⟨s,i⟩:=x
  obtain⟨p1,p2⟩:=hx
  simp only at p1 p2
  have u8b:∀c:UInt8,(c.toNat:Int)≤255:=fun c=>by have:=c.toNat_lt;omega
  have plain:s[i]?≠some 34→∀(j:Nat) (R:Prop),True:=fun _ _ _=>trivial
  have tail:∀(hne:s[i]?≠some 34),(F_scan_reader_word.res ⟨s,i⟩,F_scan_reader_word.st' ⟨s,i⟩)=(.tup [.d (.str (cutS s i (plnE s (s.length-i) i))),.d (.bool (decide (quoteV (cutS s i (plnE s (s.length-i) i))=cutS s i (plnE s (s.length-i) i))))],rdS s (plnE s (s.length-i) i)):=fun hne=>by
    simp only[F_scan_reader_word,wordV,if_neg hne]
  by_cases hi:i<s.length
  · have hsi:s[i]?=some s[i]:=List.getElem?_eq_getElem hi
    have w1:IntKind.i64.wrap ((i:Int)+1)=(i:Int)+1:=wrap_in (by omega) (by omega)
    by_cases c1:s[i]=34
    · have hr:=quotV_rng (s:=s) (i:=i+1) (by omega)
      have hw:wordV s i=match (quotV s (i+1)).1 with
        | none=>(([],false),(quotV s (i+1)).2)
        | some w=>((w,decide (quoteV w=cutS s i (quotV s (i+1)).2)),(quotV s (i+1)).2):=by
        unfold wordV
        rw[if_pos (by rw[hsi,c1])]
      simp only[F_scan_reader_word]
      generalize hq:quotV s (i+1)=q at *
      obtain⟨q,j⟩:=q
      simp only at hr hw
      cases q with
      | none =>
        simp only at hw
        rw[hw]
        simp[x_scan_reader_word,startA,hi,c1,w1,eRCall,h3,p1,show i+1≤s.length by omega,hq]
        exact FinR.done (by simp) (by simp) rfl (by simp[resOf,resE]) (by simp) (by simp)
      | some w =>
        simp only at hw
        rw[hw]
        have hl:=hr.2.2 w rfl
        have hcut:List.take (j-i) (s.drop i)=cutS s i j:=rfl
        simp[x_scan_reader_word,startA,hi,c1,w1,eRCall,h3,h2,p1,show i+1≤s.length by omega,hq,show w.length≤4194304 by omega,show i≤j by omega,hr.2.1,hcut]
        exact FinR.done (by simp) (by simp) rfl (by simp[resOf,resE]) (by simp) (by simp)
    · have hne:s[i]?≠some 34:=by rw[hsi];simpa using c1
      have d1:=u8_ne c1
      simp at d1
      rw[show F_scan_reader_word.res ⟨s,i⟩=_ from congrArg Prod.fst (tail hne),show F_scan_reader_word.st' ⟨s,i⟩=_ from congrArg Prod.snd (tail hne)]
      clear tail
      simp[x_scan_reader_word,startA,hi,d1]
      refine vc_lp (σ:=Nat) (fun j=>i≤j∧j≤s.length∧plnE s (s.length-j) j=plnE s (s.length-i) i) (fun j=>s.length-j) (fun j=>[.ref 0 0 0 0,.any,.any,.d (.int .i64 i),.any,.any,.any,.any,.any]) (fun j=>rdS s j) i (by simp) (by simp) ⟨Nat.le_refl _,p2,rfl⟩ ?_
      rintro j ⟨k1,k2,k3⟩
      by_cases hj:j<s.length
      · have w2:IntKind.i64.wrap ((j:Int)+1)=(j:Int)+1:=wrap_in (by omega) (by omega)
        have hsj:s.getD j 0=s[j]:=by simp[List.getD,hj]
        rw[show s.length-j=(s.length-(j+1))+1 by omega,plnE,hsj] at k3
        cases c:plainB s[j] with
        | true =>
          rw[if_pos ⟨hj,c⟩] at k3
          simp[hj,h1,u8b,c,w2]
          exact Nxt.mk (j+1) (by omega) (by simp) (by simp) ⟨by omega,by omega,k3⟩
        | false =>
          rw[if_neg (by rw[c];simp)] at k3
          rw[← k3]
          have hcut:List.take (j-i) (s.drop i)=cutS s i j:=rfl
          have hlen:(cutS s i j).length≤4194304:=by simp[cutS];omega
          simp[hj,h1,u8b,c,k1,k2,hcut,h2,hlen]
          exact FinR.done (by simp) (by simp) rfl (by simp[resOf,resE]) (by simp) (by simp)
      · obtain rfl:j=s.length:=by omega
        rw[Nat.sub_self,plnE] at k3
        rw[← k3]
        have hcut:List.take (s.length-i) (s.drop i)=cutS s i s.length:=rfl
        have hlen:(cutS s i s.length).length≤4194304:=by simp[cutS];omega
        simp[k1,hcut,h2,hlen]
        exact FinR.done (by simp) (by simp) rfl (by simp[resOf,resE]) (by simp) (by simp)
  · have hne:s[i]?≠some 34:=by rw[List.getElem?_eq_none (by omega)];simp
    rw[show F_scan_reader_word.res ⟨s,i⟩=_ from congrArg Prod.fst (tail hne),show F_scan_reader_word.st' ⟨s,i⟩=_ from congrArg Prod.snd (tail hne)]
    clear tail
    simp[x_scan_reader_word,startA,hi]
    refine vc_lp (σ:=Nat) (fun j=>i≤j∧j≤s.length∧plnE s (s.length-j) j=plnE s (s.length-i) i) (fun j=>s.length-j) (fun j=>[.ref 0 0 0 0,.any,.any,.d (.int .i64 i),.any,.any,.any,.any,.any]) (fun j=>rdS s j) i (by simp) (by simp) ⟨Nat.le_refl _,p2,rfl⟩ ?_
    rintro j ⟨k1,k2,k3⟩
    by_cases hj:j<s.length
    · have w2:IntKind.i64.wrap ((j:Int)+1)=(j:Int)+1:=wrap_in (by omega) (by omega)
      have hsj:s.getD j 0=s[j]:=by simp[List.getD,hj]
      rw[show s.length-j=(s.length-(j+1))+1 by omega,plnE,hsj] at k3
      cases c:plainB s[j] with
      | true =>
        rw[if_pos ⟨hj,c⟩] at k3
        simp[hj,h1,u8b,c,w2]
        exact Nxt.mk (j+1) (by omega) (by simp) (by simp) ⟨by omega,by omega,k3⟩
      | false =>
        rw[if_neg (by rw[c];simp)] at k3
        rw[← k3]
        have hcut:List.take (j-i) (s.drop i)=cutS s i j:=rfl
        have hlen:(cutS s i j).length≤4194304:=by simp[cutS];omega
        simp[hj,h1,u8b,c,k1,k2,hcut,h2,hlen]
        exact FinR.done (by simp) (by simp) rfl (by simp[resOf,resE]) (by simp) (by simp)
    · obtain rfl:j=s.length:=by omega
      rw[Nat.sub_self,plnE] at k3
      rw[← k3]
      have hcut:List.take (s.length-i) (s.drop i)=cutS s i s.length:=rfl
      have hlen:(cutS s i s.length).length≤4194304:=by simp[cutS];omega
      simp[k1,hcut,h2,hlen]
      exact FinR.done (by simp) (by simp) rfl (by simp[resOf,resE]) (by simp) (by simp)
def unqV (s:Str) (a:Int):Option (Str × Nat):=if a<0∨s.length<a then none else if (wordV s a.toNat).1.2=true then some ((wordV s a.toNat).1.1,(wordV s a.toNat).2) else none
def optW (o:Option (Str × Nat)):D:=match o with
  | some x=>.tup [.str x.1,.int .i64 x.2,.bool true]
  | none=>.tup [.str [],.int .i64 0,.bool false]
@[simp] def S_scan_Unquote:List D→Prop × D:=spec2 (α:=Str) (β:=Int) (fun s _=>s.length≤1048576) (fun s a=>optW (unqV s a))
theorem ct_scan_Unquote {P:Program} {f g1:Nat} {G:Gam} (h:CodeOf P f 2 10 [2,3,4] (x_scan_Unquote g1)) (hG:GamOk P G) (h1:G.findR g1=some R_scan_reader_word):Has P f S_scan_Unquote:=h.has2 hG fun s a hp=>by
  by_cases c1:a<0
  · have e:unqV s a=none:=by unfold unqV;rw[if_pos (.inl c1)]
    rw[e]
    simp[x_scan_Unquote,c1,optW]
  · by_cases c2:s.length<a
    · have e:unqV s a=none:=by unfold unqV;rw[if_pos (.inr c2)]
      rw[e]
      simp[x_scan_Unquote,c1,c2,optW]
    · obtain⟨k,rfl⟩:=Int.eq_ofNat_of_zero_le (show 0≤a by omega)
      have e:unqV s k=if (wordV s k).1.2=true then some ((wordV s k).1.1,(wordV s k).2) else none:=by unfold unqV;rw[if_neg (by omega),Int.toNat_natCast]
      rw[e]
      cases c3:(wordV s k).1.2 with
      | true=>simp[x_scan_Unquote,c1,c2,eRCall,h1,hp,show k≤s.length by omega,c3,optW]
      | false=>simp[x_scan_Unquote,c1,c2,eRCall,h1,hp,show k≤s.length by omega,c3,optW]
@[simp] def S_unified_named:List D→Prop × D:=spec1 (α:=Str) (fun _=>True) (fun s=>.bool (namedB s))
theorem ct_unified_named {P:Program} {f:Nat} {G:Gam} (h:CodeOf P f 1 2 [1] x_unified_named) (hG:GamOk P G):Has P f S_unified_named:=h.has1 hG fun s _=>by
  have e:namedB s=(decide (1≤s.length) && decide (s.length≤200)):=rfl
  by_cases c1:1≤s.length
  · by_cases c2:s.length≤200
    · simp[x_unified_named,e,c1,c2,show (1:Int)≤s.length by omega,show (s.length:Int)≤200 by omega]
    · simp[x_unified_named,e,c1,c2,show (1:Int)≤s.length by omega,show ¬(s.length:Int)≤200 by omega]
  · simp[x_unified_named,e,c1,show ¬(1:Int)≤s.length by omega]
@[simp] def S_unified_single:List D→Prop × D:=spec1 (α:=Str) (fun s=>s.length≤4194304) (fun s=>.bool (okL s))
theorem ct_unified_single {P:Program} {f g1 g2:Nat} {G:Gam} (h:CodeOf P f 1 2 [1] (x_unified_single g1 g2)) (hG:GamOk P G) (h1:G.find g1=some S_text_Bare) (h2:G.find g2=some S_strings_Contains):Has P f S_unified_single:=h.has1 hG fun s hp=>by
  have hb:=bareV_le s
  have q1:s.length≤9223372036854775807:=by omega
  have q2:(bareV s).length<4294967281:=by omega
  by_cases c:s=[]
  · subst c
    simp[x_unified_single,okL]
  · have e:(0≤Lib.index (bareV s) [10])=((10:UInt8)∈s.dropLast):=by rw[eq_iff_iff,index_ten,bare_ten]
    simp[x_unified_single,h1,h2,q1,q2,c,okL,e]
theorem old_succ {l:List PLineT} {i:Nat} (h:i<l.length):oldL (l.take (i+1))=oldL (l.take i)++if l[i].kind=43 then [] else [l[i].text]:=by
  rw[List.take_succ_eq_append_getElem h,old_app]
  congr 1
  by_cases c:l[i].kind=43 <;> simp[oldL,c]
theorem new_succ {l:List PLineT} {i:Nat} (h:i<l.length):newL (l.take (i+1))=newL (l.take i)++if l[i].kind=45 then [] else [l[i].text]:=by
  rw[List.take_succ_eq_append_getElem h,new_app]
  congr 1
  by_cases c:l[i].kind=45 <;> simp[newL,c]
theorem old_le (l:List PLineT):(oldL l).length≤l.length:=by
  unfold oldL
  rw[List.length_map]
  exact List.length_filter_le _ _
theorem new_le (l:List PLineT):(newL l).length≤l.length:=by
  unfold newL
  rw[List.length_map]
  exact List.length_filter_le _ _
@[simp] def S_unified_sizes:List D→Prop × D:=spec1 (α:=PHunkT) (fun h=>h.lines.length≤1000000000) (fun h=>.tup [.int .i64 (oldL h.lines).length,.int .i64 (newL h.lines).length])
theorem ct_unified_sizes {P:Program} {f:Nat} {G:Gam} (h:CodeOf P f 1 13 [2,3] x_unified_sizes) (hG:GamOk P G):Has P f S_unified_sizes:=h.has1 hG fun x hp=>by
  obtain⟨o,n,l⟩:=x
  simp only at hp
  simp[x_unified_sizes]
  refine vc_lp (σ:=Nat) (fun i=>i≤l.length) (fun i=>l.length-i) (fun i=>[.any,.ref 0 0 0 0,.any,.any,.d (.int .i64 (oldL (l.take i)).length),.d (.int .i64 (newL (l.take i)).length),.any,.d (.sl 2 (l.map Rep.to)),.d (.int .i64 l.length),.d (.int .i64 i),.any,.any,.any])
    (fun i=>[.cells 0 3 [.d (Rep.to (⟨o,n,l⟩:PHunkT))]]) 0 (by simp[oldL,newL]) (by simp) (by simp) ?_
  intro i i1
  have a1:=old_le (l.take i)
  have a2:=new_le (l.take i)
  rw[List.length_take] at a1 a2
  by_cases hi:i<l.length
  · have e1:=congrArg List.length (old_succ hi)
    have e2:=congrArg List.length (new_succ hi)
    rw[List.length_append] at e1 e2
    have w1:IntKind.i64.wrap ((i:Int)+1)=(i:Int)+1:=wrap_in (by omega) (by omega)
    generalize (oldL (l.take i)).length=a at *
    generalize (newL (l.take i)).length=b at *
    have w2:IntKind.i64.wrap ((a:Int)+1)=(a:Int)+1:=wrap_in (by omega) (by omega)
    have w3:IntKind.i64.wrap ((b:Int)+1)=(b:Int)+1:=wrap_in (by omega) (by omega)
    by_cases c1:l[i].kind=43
    · simp[c1] at e1 e2
      simp[hi,c1,w1,w2,w3]
      exact Nxt.mk (i+1) (by omega) (by simp[e1,e2]) (by simp) (by omega)
    · by_cases c2:l[i].kind=45
      · simp[c2] at e1 e2
        simp[hi,c2,w1,w2,w3]
        exact Nxt.mk (i+1) (by omega) (by simp[e1,e2]) (by simp) (by omega)
      · simp[c1,c2] at e1 e2
        simp[hi,c1,c2,w1,w2,w3]
        exact Nxt.mk (i+1) (by omega) (by simp[e1,e2]) (by simp) (by omega)
  · rw[List.take_of_length_le (by omega)]
    simp[hi]
def okT (l:List PLineT) (i:Nat):Bool:=(l.take i).all lineOk
def properT (l:List PLineT) (i:Nat):Bool:=(l.take i).any fun x=>decide (x.kind≠32)
theorem properT_succ {l:List PLineT} {i:Nat} (h:i<l.length):properT l (i+1)=(properT l i || decide (l[i].kind≠32)):=by
  unfold properT
  rw[List.take_succ_eq_append_getElem h,List.any_append]
  simp only[List.any_cons,List.any_nil,Bool.or_false]
def TxtOk (l:List PLineT):Prop:=∀x,x∈l→x.text.length≤4194304
@[simp] def S_unified_proper:List D→Prop × D:=spec1 (α:=PHunkT) (fun h=>h.lines.length≤1000000000∧TxtOk h.lines) (fun h=>.bool (properV h.lines))
theorem ct_unified_proper {P:Program} {f g1:Nat} {G:Gam} (h:CodeOf P f 1 10 [2] (x_unified_proper g1)) (hG:GamOk P G) (h1:G.find g1=some S_unified_single):Has P f S_unified_proper:=h.has1 hG fun x hp=>by
  obtain⟨o,n,l⟩:=x
  obtain⟨p1,p2⟩:=hp
  simp only at p1 p2
  simp[x_unified_proper]
  refine vc_lp (σ:=Nat) (fun i=>i≤l.length∧okT l i=true) (fun i=>l.length-i) (fun i=>[.any,.ref 0 0 0 0,.any,.d (.bool (properT l i)),.any,.d (.sl 2 (l.map Rep.to)),.d (.int .i64 l.length),.d (.int .i64 i),.any,.any])
    (fun i=>[.cells 0 3 [.d (Rep.to (⟨o,n,l⟩:PHunkT))]]) 0 (by simp[properT]) (by simp) (by simp[okT]) ?_
  rintro i ⟨i1,i2⟩
  by_cases hi:i<l.length
  · have w1:IntKind.i64.wrap ((i:Int)+1)=(i:Int)+1:=wrap_in (by omega) (by omega)
    have ht:=p2 _ (List.getElem_mem hi)
    have e1:=properT_succ hi
    have e2:okT l (i+1)=(okT l i && lineOk l[i]):=by
      unfold okT
      rw[List.take_succ_eq_append_getElem hi,List.all_append]
      simp only[List.all_cons,List.all_nil,Bool.and_true]
    have e3:lineOk l[i]=false→properV l=false:=fun h=>by
      unfold properV
      have:l.all lineOk=false:=by
        rw[List.all_eq_false]
        exact⟨l[i],List.getElem_mem hi,by rw[h];simp⟩
      rw[this,Bool.false_and]
    rw[i2,Bool.true_and] at e2
    have hl:lineOk l[i]=((decide (l[i].kind=32) || decide (l[i].kind=45) || decide (l[i].kind=43)) && okL l[i].text):=rfl
    by_cases ck:l[i].kind=32∨l[i].kind=45∨l[i].kind=43
    · have hk:(decide (l[i].kind=32) || decide (l[i].kind=45) || decide (l[i].kind=43))=true:=by
        rcases ck with ck | ck | ck <;> simp[ck]
      rw[hk,Bool.true_and] at hl
      cases c:okL l[i].text with
      | true =>
        rw[c] at hl
        generalize hq:properT l i=q at *
        rcases ck with ck | ck | ck
        · simp[ck] at e1
          cases q <;> (simp[hi,h1,ht,ck,c,w1];exact Nxt.mk (i+1) (by omega) (by simp[e1]) (by simp) ⟨by omega,by rw[e2,hl]⟩)
        · simp[ck] at e1
          cases q <;> (simp[hi,h1,ht,ck,c,w1];exact Nxt.mk (i+1) (by omega) (by simp[e1]) (by simp) ⟨by omega,by rw[e2,hl]⟩)
        · simp[ck] at e1
          cases q <;> (simp[hi,h1,ht,ck,c,w1];exact Nxt.mk (i+1) (by omega) (by simp[e1]) (by simp) ⟨by omega,by rw[e2,hl]⟩)
      | false =>
        rw[c] at hl
        have e4:=e3 hl
        rcases ck with ck | ck | ck
        · simp[hi,h1,ht,ck,c,e4]
        · simp[hi,h1,ht,ck,c,e4]
        · simp[hi,h1,ht,ck,c,e4]
    · have hk:(decide (l[i].kind=32) || decide (l[i].kind=45) || decide (l[i].kind=43))=false:=by
        simp only[Bool.or_eq_false_iff,decide_eq_false_iff_not]
        omega
      rw[hk,Bool.false_and] at hl
      have e4:=e3 hl
      have k1:¬l[i].kind=32:=by omega
      have k2:¬l[i].kind=45:=by omega
      have k3:¬l[i].kind=43:=by omega
      simp[hi,h1,ht,k1,k2,k3,e4]
  · have e:properV l=properT l i:=by
      unfold okT at i2
      rw[List.take_of_length_le (by omega)] at i2
      unfold properV properT
      rw[i2,List.take_of_length_le (by omega),Bool.true_and]
    rw[e]
    simp[hi]
structure SlX where
  s:SideT
  t:Str
@[simp] def sideO (s:SideT):Ob:=.cells 0 2 [.agg [.d (.int .i64 s.fin),.d (.bool s.opn)]]
@[simp] def F_unified_side_line:RF SlX where
  new:=0
  view a st:=⟨⟨((st.getD 0 .dead).at 0 0).gi,((st.getD 0 .dead).at 0 1).gb⟩,(a.getD 1 .any).gs⟩
  args x:=[.ref 0 0 0 0,.d (.str x.t)]
  st x:=[sideO x.s]
  pre x:=x.t.length≤4194304
  res x:=.d (.bool (!x.s.opn))
  st' x:=[sideO ⟨x.s.fin,!endedV x.t⟩]
abbrev R_unified_side_line:RSpec:=F_unified_side_line.spec
theorem ct_unified_side_line {P:Program} {f g1:Nat} {G:Gam} (hc:CodeOf P f 2 4 [2] (x_unified_side_line g1)) (hG:GamOk P G) (h1:G.find g1=some S_text_Ended):RSpec.Ok P f R_unified_side_line:=by
  refine RF.ok hc.call fun x hx=>hc.rcalls hG rfl ?_
  obtain⟨⟨fin,opn⟩,t⟩:=x
  have hx:t.length≤4194304:=hx
  simp[x_unified_side_line,startA,h1,show t.length≤9223372036854775807 by omega]
  exact FinR.done (by simp) (by simp) rfl (by simp[resOf,resE]) (by simp) (by simp)
def HunkOk (h:PHunkT):Prop:=h.lines.length≤1000000000∧∀x,x∈h.lines→x.text.length≤4194304∧0≤x.kind∧x.kind<256
structure PcX where
  h:PHunkT
  o:SideT
  n:SideT
@[simp] def F_unified_placed:RF PcX where
  new:=0
  view a st:=⟨(a.getD 0 .any).gvd PHunkT,⟨((st.getD 0 .dead).at 0 0).gi,((st.getD 0 .dead).at 0 1).gb⟩,⟨((st.getD 1 .dead).at 0 0).gi,((st.getD 1 .dead).at 0 1).gb⟩⟩
  args x:=[.agg [.d (.int .i64 x.h.old),.d (.int .i64 x.h.new),.d (.sl 2 (x.h.lines.map Rep.to))],.ref 0 0 0 0,.ref 1 0 0 0]
  st x:=[sideO x.o,sideO x.n]
  pre x:=HunkOk x.h∧0≤x.o.fin∧x.o.fin≤4096∧0≤x.n.fin∧x.n.fin≤4096
  res x:=.d (.bool (placedV x.h x.o x.n).2)
  st' x:=[sideO (placedV x.h x.o x.n).1.1,sideO (placedV x.h x.o x.n).1.2]
abbrev R_unified_placed:RSpec:=F_unified_placed.spec
structure OlX where
  i:Nat
  o:Bool
  n:Bool
theorem ct_unified_placed {P:Program} {f g1 g2:Nat} {G:Gam} (hc:CodeOf P f 3 14 [4] (x_unified_placed g1 g2)) (hG:GamOk P G) (h1:G.find g1=some S_unified_sizes) (h2:G.findR g2=some R_unified_side_line):RSpec.Ok P f R_unified_placed:=by
  refine RF.ok hc.call fun x hx=>hc.rcalls hG rfl ?_
  obtain⟨⟨ho,hn,l⟩,⟨of,oo⟩,⟨nf,no⟩⟩:=x
  obtain⟨⟨p1,p2⟩,p3,p4,p5,p6⟩:=hx
  simp only at p1 p2 p3 p4 p5 p6
  have bad:posOk ⟨ho,hn,l⟩ ⟨of,oo⟩ ⟨nf,no⟩=false→placedV ⟨ho,hn,l⟩ ⟨of,oo⟩ ⟨nf,no⟩=((⟨of,oo⟩,⟨nf,no⟩),false):=fun e=>by
    unfold placedV
    rw[if_neg (by rw[e];simp)]
  by_cases c1:ho<0
  · simp only[F_unified_placed,bad (by rw[← Bool.not_eq_true,posOk_iff];simp only;omega)]
    simp[x_unified_placed,startA,c1]
    exact FinR.done (by simp) (by simp) rfl (by simp[resOf,resE]) (by simp) (by simp)
  by_cases c2:hn<0
  · simp only[F_unified_placed,bad (by rw[← Bool.not_eq_true,posOk_iff];simp only;omega)]
    simp[x_unified_placed,startA,c1,c2]
    exact FinR.done (by simp) (by simp) rfl (by simp[resOf,resE]) (by simp) (by simp)
  by_cases c3:4096<ho
  · simp only[F_unified_placed,bad (by rw[← Bool.not_eq_true,posOk_iff];simp only;omega)]
    simp[x_unified_placed,startA,c1,c2,c3]
    exact FinR.done (by simp) (by simp) rfl (by simp[resOf,resE]) (by simp) (by simp)
  by_cases c4:4096<hn
  · simp only[F_unified_placed,bad (by rw[← Bool.not_eq_true,posOk_iff];simp only;omega)]
    simp[x_unified_placed,startA,c1,c2,c3,c4]
    exact FinR.done (by simp) (by simp) rfl (by simp[resOf,resE]) (by simp) (by simp)
  by_cases c5:ho<of
  · simp only[F_unified_placed,bad (by rw[← Bool.not_eq_true,posOk_iff];simp only;omega)]
    simp[x_unified_placed,startA,c1,c2,c3,c4,c5]
    exact FinR.done (by simp) (by simp) rfl (by simp[resOf,resE]) (by simp) (by simp)
  have w1:IntKind.i64.wrap (ho-of)=ho-of:=wrap_in (by omega) (by omega)
  have w2:IntKind.i64.wrap (hn-nf)=hn-nf:=wrap_in (by omega) (by omega)
  by_cases c6:ho-of=hn-nf
  rotate_left
  · simp only[F_unified_placed,bad (by rw[← Bool.not_eq_true,posOk_iff];simp only;omega)]
    simp[x_unified_placed,startA,c1,c2,c3,c4,c5,c6,w1,w2]
    exact FinR.done (by simp) (by simp) rfl (by simp[resOf,resE]) (by simp) (by simp)
  have hpos:posOk ⟨ho,hn,l⟩ ⟨of,oo⟩ ⟨nf,no⟩=true:=by rw[posOk_iff];simp only;omega
  have hpl:placedV ⟨ho,hn,l⟩ ⟨of,oo⟩ ⟨nf,no⟩=if (openL oo no l).2=true then
      ((⟨ho+(oldL l).length,(openL oo no l).1.1⟩,⟨hn+(newL l).length,(openL oo no l).1.2⟩),decide (ho+(oldL l).length≤4096) && decide (hn+(newL l).length≤4096))
    else ((⟨of,(openL oo no l).1.1⟩,⟨nf,(openL oo no l).1.2⟩),false):=by
    unfold placedV
    rw[if_pos hpos]
  have a1:=old_le l
  have a2:=new_le l
  simp only[F_unified_placed,hpl]
  simp[x_unified_placed,startA,c1,c2,c3,c4,c5,c6,w1,w2]
  refine vc_lp (σ:=OlX) (fun x=>x.i≤l.length∧openL x.o x.n (l.drop x.i)=openL oo no l) (fun x=>l.length-x.i)
    (fun x=>[.any,.ref 0 0 0 0,.ref 1 0 0 0,.ref 2 0 0 0,.any,.any,.any,.any,.any,.d (.sl 2 (l.map Rep.to)),.d (.int .i64 l.length),.d (.int .i64 x.i),.any,.any])
    (fun x=>[sideO ⟨of,x.o⟩,sideO ⟨nf,x.n⟩,.cells 0 3 [.agg [.d (.int .i64 ho),.d (.int .i64 hn),.d (.sl 2 (l.map Rep.to))]]]) ⟨0,oo,no⟩ (by simp) (by simp) ⟨by simp,by simp⟩ ?_
  rintro⟨i,o,n⟩ ⟨i1,i2⟩
  simp only at i1 i2
  by_cases hi:i<l.length
  · have w3:IntKind.i64.wrap ((i:Int)+1)=(i:Int)+1:=wrap_in (by omega) (by omega)
    obtain⟨q1,q2,q3⟩:=p2 _ (List.getElem_mem hi)
    rw[List.drop_eq_getElem_cons hi,openL] at i2
    by_cases k1:l[i].kind=43
    · have k2:¬l[i].kind=45:=by omega
      cases n with
      | true =>
        simp[k1] at i2
        rw[← i2]
        simp[hi,k1,eRCall,h2,q1]
        exact FinR.done (by simp) (by simp) rfl (by simp[resOf,resE]) (by simp) (by simp)
      | false =>
        simp[k1] at i2
        simp[hi,k1,eRCall,h2,q1,w3]
        exact Nxt.mk (⟨i+1,o,!endedV l[i].text⟩:OlX) (by simp only;omega) (by simp) (by simp) ⟨by simp only;omega,i2⟩
    · by_cases k2:l[i].kind=45
      · cases o with
        | true =>
          simp[k2] at i2
          rw[← i2]
          simp[hi,k2,eRCall,h2,q1]
          exact FinR.done (by simp) (by simp) rfl (by simp[resOf,resE]) (by simp) (by simp)
        | false =>
          simp[k2] at i2
          simp[hi,k2,eRCall,h2,q1,w3]
          exact Nxt.mk (⟨i+1,!endedV l[i].text,n⟩:OlX) (by simp only;omega) (by simp) (by simp) ⟨by simp only;omega,i2⟩
      · cases o with
        | true =>
          simp[k1,k2] at i2
          rw[← i2]
          simp[hi,k1,k2,eRCall,h2,q1]
          exact FinR.done (by simp) (by simp) rfl (by simp[resOf,resE]) (by simp) (by simp)
        | false =>
          cases n with
          | true =>
            simp[k1,k2] at i2
            rw[← i2]
            simp[hi,k1,k2,eRCall,h2,q1]
            exact FinR.done (by simp) (by simp) rfl (by simp[resOf,resE]) (by simp) (by simp)
          | false =>
            simp[k1,k2] at i2
            simp[hi,k1,k2,eRCall,h2,q1,w3]
            exact Nxt.mk (⟨i+1,!endedV l[i].text,!endedV l[i].text⟩:OlX) (by simp only;omega) (by simp) (by simp) ⟨by simp only;omega,i2⟩
  · rw[List.drop_of_length_le (by omega),openL] at i2
    rw[← i2]
    have w4:IntKind.i64.wrap (ho+(oldL l).length)=ho+(oldL l).length:=wrap_in (by omega) (by omega)
    have w5:IntKind.i64.wrap (hn+(newL l).length)=hn+(newL l).length:=wrap_in (by omega) (by omega)
    by_cases d1:ho+(oldL l).length≤4096
    · by_cases d2:hn+(newL l).length≤4096
      · simp[hi,h1,p1,w4,w5,d1,d2]
        exact FinR.done (by simp) (by simp) rfl (by simp[resOf,resE]) (by simp) (by simp)
      · simp[hi,h1,p1,w4,w5,d1,d2]
        exact FinR.done (by simp) (by simp) rfl (by simp[resOf,resE]) (by simp) (by simp)
    · simp[hi,h1,p1,w4,w5,d1]
      exact FinR.done (by simp) (by simp) rfl (by simp[resOf,resE]) (by simp) (by simp)
theorem placed_rng {h:PHunkT} {o n:SideT} (hp:(placedV h o n).2=true):0≤(placedV h o n).1.1.fin∧(placedV h o n).1.1.fin≤4096∧0≤(placedV h o n).1.2.fin∧(placedV h o n).1.2.fin≤4096:=by
  unfold placedV at *
  split at hp
  · rename_i c
    rw[if_pos c]
    rw[posOk_iff] at c
    split at hp
    · rename_i d
      rw[if_pos d]
      simp only[Bool.and_eq_true,decide_eq_true_eq] at hp ⊢
      omega
    · cases hp
  · cases hp
structure WfX where
  i:Nat
  o:SideT
  n:SideT
@[simp] def S_unified_wellFormed:List D→Prop × D:=spec1 (α:=List PHunkT) (fun l=>l.length≤1000000000∧∀h,h∈l→HunkOk h) (fun l=>.bool (wellV ⟨0,false⟩ ⟨0,false⟩ l))
theorem ct_unified_wellFormed {P:Program} {f g1 g2:Nat} {G:Gam} (h:CodeOf P f 1 10 [1] (x_unified_wellFormed g1 g2)) (hG:GamOk P G) (h1:G.find g1=some S_unified_proper) (h2:G.findR g2=some R_unified_placed):Has P f S_unified_wellFormed:=h.has1 hG fun l hp=>by
  obtain⟨p1,p2⟩:=hp
  simp[x_unified_wellFormed]
  refine vc_lpR (σ:=WfX) (fun x=>x.i≤l.length∧(0≤x.o.fin∧x.o.fin≤4096∧0≤x.n.fin∧x.n.fin≤4096)∧wellV ⟨0,false⟩ ⟨0,false⟩ l=wellV x.o x.n (l.drop x.i)) (fun x=>l.length-x.i)
    (fun x=>[.any,.any,.ref 0 0 0 0,.ref 1 0 0 0,.any,.d (.sl 3 (l.map Rep.to)),.d (.int .i64 l.length),.d (.int .i64 x.i),.any,.any])
    (fun x=>[sideO x.o,sideO x.n]) ⟨0,⟨0,false⟩,⟨0,false⟩⟩ ?_ ⟨by simp,by simp,by simp⟩ ?_
  · refine Re.wn (s':=[sideO ⟨0,false⟩,sideO ⟨0,false⟩]) [false,false,true,true,false,true,true,true] [] (by simp) (by simp) ?_ ?_ (by simp)
    · simp
    · exact⟨WkO.agg1 _ _ 0 2 [.int .i64 0,.bool false] rfl,WkO.agg1 _ _ 0 2 [.int .i64 0,.bool false] rfl,trivial⟩
  rintro⟨i,o,n⟩ ⟨i1,i2,i3⟩
  simp only at i1 i2 i3
  by_cases hi:i<l.length
  · have w1:IntKind.i64.wrap ((i:Int)+1)=(i:Int)+1:=wrap_in (by omega) (by omega)
    have hh:=p2 _ (List.getElem_mem hi)
    have q1:=hh.1
    have q2:TxtOk l[i].lines:=fun x hx=>(hh.2 x hx).1
    rw[List.drop_eq_getElem_cons hi,wellV] at i3
    have hk:HunkOk ⟨l[i].old,l[i].new,l[i].lines⟩:=hh
    cases c:properV l[i].lines with
    | false =>
      rw[c,Bool.false_and] at i3
      simp[hi,getD_map,h1,q1,q2,c,i3]
    | true =>
      rw[c,Bool.true_and] at i3
      cases d:(placedV l[i] o n).2 with
      | false =>
        rw[d,Bool.false_and] at i3
        simp[hi,getD_map,h1,q1,q2,c,eRCall,h2,hk,i2,d,i3]
      | true =>
        rw[d,Bool.true_and] at i3
        have hr:=placed_rng d
        simp[hi,getD_map,h1,q1,q2,c,eRCall,h2,hk,i2,d,w1]
        exact Nxt.mk (⟨i+1,(placedV l[i] o n).1.1,(placedV l[i] o n).1.2⟩:WfX) (by simp only;omega) (by simp) (by simp) ⟨by simp only;omega,hr,i3⟩
  · rw[List.drop_of_length_le (by omega),wellV] at i3
    rw[i3]
    simp[hi]
theorem frange_len (s c:Int):(frangeV s c).length≤43:=by
  have h1:=fmt_len s
  have h2:=fmt_len (s+1)
  have h3:=fmt_len c
  unfold frangeV
  split
  · simp
  · split
    · simp only[List.length_append,List.length_cons,List.length_nil];omega
    · split
      · omega
      · simp only[List.length_append,List.length_cons,List.length_nil];omega
theorem head_len (h:PHunkT):(headV h).length≤100:=by
  have h1:=frange_len h.old (oldL h.lines).length
  have h2:=frange_len h.new (newL h.lines).length
  unfold headV
  simp only[List.length_append,List.length_cons,List.length_nil]
  omega
@[simp] def S_unified_header:List D→Prop × D:=spec1 (α:=PHunkT) (fun h=>h.lines.length≤1000000000) (fun h=>.str (headV h))
theorem ct_unified_header {P:Program} {f g1 g2:Nat} {G:Gam} (h:CodeOf P f 1 5 [2] (x_unified_header g1 g2)) (hG:GamOk P G) (h1:G.find g1=some S_unified_sizes) (h2:G.find g2=some S_scan_FormatRange):Has P f S_unified_header:=h.has1 hG fun x hp=>by
  obtain⟨o,n,l⟩:=x
  simp only at hp
  have k1:=frange_len o (oldL l).length
  have k2:=frange_len n (newL l).length
  have e:headV ⟨o,n,l⟩=[64,64,32,45]++frangeV o (oldL l).length++[32,43]++frangeV n (newL l).length++[32,64,64,10]:=rfl
  rw[e]
  simp[x_unified_header,h1,h2,hp]
  omega
def writT (p:PatchT) (i:Nat):Str:=namesW p++(p.hunks.take i).flatMap hunkW
def linesT (l:List PLineT) (j:Nat):Str:=(l.take j).flatMap lineW
theorem writT_succ {p:PatchT} {i:Nat} (h:i<p.hunks.length):writT p (i+1)=writT p i++headV p.hunks[i]++linesT p.hunks[i].lines p.hunks[i].lines.length:=by
  unfold writT linesT
  rw[List.take_succ_eq_append_getElem h,List.flatMap_append,List.take_length]
  simp only[List.flatMap_cons,List.flatMap_nil,List.append_nil,hunkW,List.append_assoc]
theorem linesT_succ {l:List PLineT} {j:Nat} (h:j<l.length):linesT l (j+1)=linesT l j++lineW l[j]:=by
  unfold linesT
  rw[List.take_succ_eq_append_getElem h,List.flatMap_append]
  simp only[List.flatMap_cons,List.flatMap_nil,List.append_nil]
theorem writT_end (p:PatchT):writT p p.hunks.length=writV p:=by unfold writT writV;rw[List.take_length]
theorem writT_le (p:PatchT) (i:Nat):(writT p i).length≤(writV p).length:=by
  unfold writT writV
  have h:=List.take_append_drop i p.hunks
  have:p.hunks.flatMap hunkW=(p.hunks.take i).flatMap hunkW++(p.hunks.drop i).flatMap hunkW:=by rw[← List.flatMap_append,h]
  rw[this]
  simp only[List.length_append]
  omega
theorem linesT_le (l:List PLineT) (j:Nat):(linesT l j).length≤(linesT l l.length).length:=by
  unfold linesT
  rw[List.take_length]
  have h:=List.take_append_drop j l
  have:l.flatMap lineW=(l.take j).flatMap lineW++(l.drop j).flatMap lineW:=by rw[← List.flatMap_append,h]
  rw[this]
  simp only[List.length_append]
  omega
def PatOk (p:PatchT):Prop:=p.oldName.length≤1048576∧p.newName.length≤1048576∧(writV p).length≤1000000000∧p.hunks.length≤1000000000∧∀h,h∈p.hunks→HunkOk h
@[simp] def buW (k:Nat) (bs:Str):Store:=[.cells 0 2 [.agg [.tref k 0 106,.bgr (k+1) 5 bs]],.tip bs.length]
@[simp] def S_unified_written:List D→Prop × D:=spec1 (α:=PatchT) PatOk (fun p=>.str (writV p))
theorem ct_unified_written {P:Program} {f g1 g2 g3 g4 g5 g6:Nat} {G:Gam} (h:CodeOf P f 1 15 [2] (x_unified_written g1 g2 g3 g4 g5 g6)) (hG:GamOk P G) (h1:G.find g1=some S_scan_Quote) (h2:G.find g2=some S_unified_header) (h3:G.find g3=some S_text_Ended) (h4:G.findR g4=some R___strings_Builder__WriteString) (h5:G.findR g5=some R___strings_Builder__WriteByte) (h6:G.findR g6=some R___strings_Builder__String):Has P f S_unified_written:=h.has1 hG fun p hp=>by
  obtain⟨p1,p2,p3,p4,p5⟩:=hp
  have q1:=quote_len p.oldName
  have q2:=quote_len p.newName
  have e0:[45,45,45,32]++quoteV p.oldName++[10,43,43,43,32]++quoteV p.newName++[10]=writT p 0:=by simp[writT,namesW]
  have e0l:=congrArg List.length e0
  simp only[List.length_append,List.length_cons,List.length_nil] at e0l
  simp only[List.append_assoc,List.cons_append,List.nil_append] at e0
  simp[x_unified_written,h1,show p.oldName.length≤4194304 by omega,show p.newName.length≤4194304 by omega,eRCall,h4,e0]
  refine⟨by omega,by omega,by omega,by omega,by omega,?_⟩
  refine vc_lp (σ:=Nat) (fun i=>i≤p.hunks.length) (fun i=>p.hunks.length-i)
    (fun i=>[.any,.ref 0 0 0 0,.any,.ref 1 0 0 0,.any,.any,.d (.sl 3 (p.hunks.map Rep.to)),.d (.int .i64 p.hunks.length),.d (.int .i64 i),.any,.any,.any,.any,.any,.any])
    (fun i=>.cells 0 3 [.d (Rep.to p)]::buW 1 (writT p i)) 0 (by simp) (by simp) (by simp) ?_
  intro i i1
  by_cases hi:i<p.hunks.length
  · have w1:IntKind.i64.wrap ((i:Int)+1)=(i:Int)+1:=wrap_in (by omega) (by omega)
    have hh:=p5 _ (List.getElem_mem hi)
    have hs:=writT_succ hi
    have hsl:=writT_le p (i+1)
    have k1:=head_len p.hunks[i]
    have k2:headV ⟨p.hunks[i].old,p.hunks[i].new,p.hunks[i].lines⟩=headV p.hunks[i]:=rfl
    rw[hs,List.length_append,List.length_append] at hsl
    simp[hi,getD_map,h2,hh.1,k2,eRCall,h4]
    refine⟨by omega,?_⟩
    generalize hB:writT p i++headV p.hunks[i]=B at *
    have hBl:B.length=(writT p i).length+(headV p.hunks[i]).length:=by rw[← hB,List.length_append]
    obtain⟨hh1,hh2⟩:=hh
    generalize hl:p.hunks[i].lines=l at *
    refine vc_lp (σ:=Nat) (fun j=>j≤l.length) (fun j=>l.length-j)
      (fun j=>[.any,.ref 0 0 0 0,.any,.ref 1 0 0 0,.any,.any,.d (.sl 3 (p.hunks.map Rep.to)),.d (.int .i64 p.hunks.length),.d (.int .i64 i),.any,.d (.sl 2 (l.map Rep.to)),.d (.int .i64 l.length),.d (.int .i64 j),.any,.any])
      (fun j=>.cells 0 3 [.d (Rep.to p)]::buW 1 (B++linesT l j)) 0 (by simp) (by simp[linesT];omega) (by simp) ?_
    intro j j1
    by_cases hj:j<l.length
    · have w2:IntKind.i64.wrap ((j:Int)+1)=(j:Int)+1:=wrap_in (by omega) (by omega)
      obtain⟨r1,r2,r3⟩:=hh2 _ (List.getElem_mem hj)
      have ht:=linesT_succ hj
      have htl:=linesT_le l (j+1)
      have e1:lineW l[j]=UInt8.ofNat l[j].kind.toNat::(l[j].text++if endedV l[j].text=true then [] else unendS):=rfl
      rw[ht,List.length_append] at htl
      cases c:endedV l[j].text with
      | true =>
        rw[e1,c] at ht htl
        simp at ht htl
        simp[hj,getD_map,eRCall,h5,h4,r2,r3,h3,show l[j].text.length≤9223372036854775807 by omega,c,w2]
        refine⟨by omega,by omega,Nxt.mk (j+1) (by omega) (by simp) (by simp[ht];omega) (by omega)⟩
      | false =>
        rw[e1,c] at ht htl
        simp at ht htl
        have hu:unendS.length=29:=rfl
        have hu2:[10,92,32,78,111,32,110,101,119,108,105,110,101,32,97,116,32,101,110,100,32,111,102,32,102,105,108,101,10]=unendS:=rfl
        rw[hu] at htl
        simp[hj,getD_map,eRCall,h5,h4,r2,r3,h3,show l[j].text.length≤9223372036854775807 by omega,c,w2]
        refine⟨by omega,by omega,by omega,Nxt.mk (j+1) (by omega) (by simp) (by simp[ht,unendS];omega) (by omega)⟩
    · have e:j=l.length:=by omega
      subst e
      simp[w1]
      exact Nxt.mk (i+1) (by omega) (by simp) (by simp[hs]) (by omega)
  · have e:i=p.hunks.length:=by omega
    subst e
    have hne:writV p≠[]:=by simp[writV,namesW]
    rw[writT_end]
    simp[eRCall,h6,hne]
    omega
@[simp] def S_unified_size:List D→Prop × D:=spec1 (α:=PatchT) PatOk (fun p=>.int .i64 (writV p).length)
theorem ct_unified_size {P:Program} {f g1 g2 g3:Nat} {G:Gam} (h:CodeOf P f 1 15 [2] (x_unified_size g1 g2 g3)) (hG:GamOk P G) (h1:G.find g1=some S_unified_written) (h2:G.find g2=some S_unified_header) (h3:G.find g3=some S_text_Ended):Has P f S_unified_size:=h.has1 hG fun p hp=>by
  obtain⟨p1,p2,p3,p4,p5⟩:=hp
  have e0:writV ⟨p.oldName,p.newName,[]⟩=writT p 0:=by simp[writV,writT,namesW]
  have hl0:=writT_le p 0
  have pk:PatOk ⟨p.oldName,p.newName,[]⟩:=⟨p1,p2,by rw[e0];omega,by simp,by simp⟩
  simp[x_unified_size,h1,pk,e0]
  refine vc_lp (σ:=Nat) (fun i=>i≤p.hunks.length) (fun i=>p.hunks.length-i)
    (fun i=>[.any,.ref 0 0 0 0,.any,.d (.int .i64 (writT p i).length),.any,.any,.d (.sl 3 (p.hunks.map Rep.to)),.d (.int .i64 p.hunks.length),.d (.int .i64 i),.any,.any,.any,.any,.any,.any])
    (fun i=>[.cells 0 3 [.d (Rep.to p)]]) 0 (by simp) (by simp) (by simp) ?_
  intro i i1
  by_cases hi:i<p.hunks.length
  · have w1:IntKind.i64.wrap ((i:Int)+1)=(i:Int)+1:=wrap_in (by omega) (by omega)
    have hh:=p5 _ (List.getElem_mem hi)
    have hs:=congrArg List.length (writT_succ hi)
    have hsl:=writT_le p (i+1)
    have k1:=head_len p.hunks[i]
    have k2:headV ⟨p.hunks[i].old,p.hunks[i].new,p.hunks[i].lines⟩=headV p.hunks[i]:=rfl
    rw[List.length_append,List.length_append] at hs
    have w2:IntKind.i64.wrap (((writT p i).length:Int)+(headV p.hunks[i]).length)=(((writT p i).length+(headV p.hunks[i]).length:Nat):Int):=by rw[wrap_in (by omega) (by omega)];omega
    simp[hi,getD_map,h2,hh.1,k2,w2]
    obtain⟨hh1,hh2⟩:=hh
    rw[hs] at hsl
    generalize hl:p.hunks[i].lines=l at *
    generalize hB:(writT p i).length+(headV p.hunks[i]).length=B at *
    refine vc_lp (σ:=Nat) (fun j=>j≤l.length) (fun j=>l.length-j)
      (fun j=>[.any,.ref 0 0 0 0,.any,.d (.int .i64 ((B+(linesT l j).length:Nat):Int)),.any,.any,.d (.sl 3 (p.hunks.map Rep.to)),.d (.int .i64 p.hunks.length),.d (.int .i64 i),.any,.d (.sl 2 (l.map Rep.to)),.d (.int .i64 l.length),.d (.int .i64 j),.any,.any])
      (fun j=>[.cells 0 3 [.d (Rep.to p)]]) 0 (by simp[linesT];omega) (by simp) (by simp) ?_
    intro j j1
    by_cases hj:j<l.length
    · have w3:IntKind.i64.wrap ((j:Int)+1)=(j:Int)+1:=wrap_in (by omega) (by omega)
      obtain⟨r1,r2,r3⟩:=hh2 _ (List.getElem_mem hj)
      have ht:=congrArg List.length (linesT_succ hj)
      have htl:=linesT_le l (j+1)
      have e1:lineW l[j]=UInt8.ofNat l[j].kind.toNat::(l[j].text++if endedV l[j].text=true then [] else unendS):=rfl
      rw[List.length_append] at ht
      generalize hA:B+(linesT l j).length=A at *
      have w4:IntKind.i64.wrap (1+(l[j].text.length:Int))=((1+l[j].text.length:Nat):Int):=by rw[wrap_in (by omega) (by omega)];omega
      have w5:IntKind.i64.wrap ((A:Int)+((1+l[j].text.length:Nat):Int))=((A+(1+l[j].text.length):Nat):Int):=by rw[wrap_in (by omega) (by omega)];omega
      cases c:endedV l[j].text with
      | true =>
        rw[e1,c] at ht
        simp at ht
        have hA2:B+(linesT l (j+1)).length=A+(1+l[j].text.length):=by omega
        simp only[Int.natCast_add,Int.natCast_one] at w4 w5
        simp[hj,getD_map,h3,show l[j].text.length≤9223372036854775807 by omega,c,w3,w4,w5]
        exact Nxt.mk (j+1) (by omega) (by simp;omega) (by simp) (by omega)
      | false =>
        rw[e1,c] at ht
        have hu:unendS.length=29:=rfl
        simp[hu] at ht
        have hA2:B+(linesT l (j+1)).length=A+(1+l[j].text.length)+29:=by omega
        have w6:IntKind.i64.wrap (((A+(1+l[j].text.length):Nat):Int)+29)=((A+(1+l[j].text.length):Nat):Int)+29:=wrap_in (by omega) (by omega)
        simp only[Int.natCast_add,Int.natCast_one] at w4 w5 w6
        simp[hj,getD_map,h3,show l[j].text.length≤9223372036854775807 by omega,c,w3,w4,w5,w6]
        exact Nxt.mk (j+1) (by omega) (by simp;omega) (by simp) (by omega)
    · have e:j=l.length:=by omega
      subst e
      simp[w1]
      exact Nxt.mk (i+1) (by omega) (by simp;omega) (by simp) (by omega)
  · have e:i=p.hunks.length:=by omega
    subst e
    rw[writT_end]
    simp
theorem PatOk.len {p:PatchT} (h:PatOk p):p.oldName.length≤1048576∧p.newName.length≤1048576∧p.hunks.length≤1000000000∧∀h,h∈p.hunks→HunkOk h:=⟨h.1,h.2.1,h.2.2.2.1,h.2.2.2.2⟩
@[simp] def S_unified_Check:List D→Prop × D:=spec1 (α:=PatchT) PatOk (fun p=>.int .i64 (chkP p))
theorem ct_unified_Check {P:Program} {f g1 g2 g3:Nat} {G:Gam} (h:CodeOf P f 1 6 [2] (x_unified_Check g1 g2 g3)) (hG:GamOk P G) (h1:G.find g1=some S_unified_named) (h2:G.find g2=some S_unified_wellFormed) (h3:G.find g3=some S_unified_size):Has P f S_unified_Check:=h.has1 hG fun p hp=>by
  have pk:PatOk ⟨p.oldName,p.newName,p.hunks⟩:=hp
  have hl:=hp.len.2.2.1
  have hh:=hp.len.2.2.2
  have hw:writV ⟨p.oldName,p.newName,p.hunks⟩=writV p:=rfl
  have e:chkP p=if (namedB p.oldName && namedB p.newName)=false then 120 else if wellV ⟨0,false⟩ ⟨0,false⟩ p.hunks=false then 121 else if 16777216<(writV p).length then 1 else 0:=rfl
  cases c1:namedB p.oldName with
  | false=>simp[x_unified_Check,h1,c1,e]
  | true =>
    cases c2:namedB p.newName with
    | false=>simp[x_unified_Check,h1,c1,c2,e]
    | true =>
      cases c3:wellV ⟨0,false⟩ ⟨0,false⟩ p.hunks with
      | false =>
        simp[x_unified_Check,h1,c1,c2,h2,hl,c3,e]
        exact hh
      | true =>
        by_cases c4:16777216<(writV p).length
        · simp[x_unified_Check,h1,c1,c2,h2,hl,c3,h3,pk,hw,c4,e,show (16777216:Int)<(writV p).length by omega]
          exact hh
        · simp[x_unified_Check,h1,c1,c2,h2,hl,c3,h3,pk,hw,c4,e,show ¬(16777216:Int)<(writV p).length by omega]
          exact hh
def fmtP (p:PatchT):D:=if chkP p=0 then .tup [.str (writV p),.int .i64 0] else .tup [.str [],.int .i64 (chkP p)]
@[simp] def S_unified_Format:List D→Prop × D:=spec1 (α:=PatchT) PatOk (fun p=>fmtP p)
theorem ct_unified_Format {P:Program} {f g1 g2:Nat} {G:Gam} (h:CodeOf P f 1 6 [2,3] (x_unified_Format g1 g2)) (hG:GamOk P G) (h1:G.find g1=some S_unified_Check) (h2:G.find g2=some S_unified_written):Has P f S_unified_Format:=h.has1 hG fun p hp=>by
  have pk:PatOk ⟨p.oldName,p.newName,p.hunks⟩:=hp
  have hc:chkP ⟨p.oldName,p.newName,p.hunks⟩=chkP p:=rfl
  have hw:writV ⟨p.oldName,p.newName,p.hunks⟩=writV p:=rfl
  by_cases c:chkP p=0
  · have e:fmtP p=.tup [.str (writV p),.int .i64 0]:=if_pos c
    rw[e]
    simp[x_unified_Format,h1,pk,hc,c,h2,hw]
  · have e:fmtP p=.tup [.str [],.int .i64 (chkP p)]:=if_neg c
    rw[e]
    simp[x_unified_Format,h1,pk,hc,c]
theorem prefix_take (s p:Str):Lib.hasPrefix s p=decide (s.take p.length=p):=by
  unfold Lib.hasPrefix
  rw[Bool.eq_iff_iff,List.isPrefixOf_iff_prefix,List.prefix_iff_eq_take,decide_eq_true_eq]
  exact eq_comm
theorem suffix_drop (s p:Str):Lib.hasSuffix s p=decide (s.drop (s.length-p.length)=p):=by
  unfold Lib.hasSuffix
  rw[Bool.eq_iff_iff,List.isSuffixOf_iff_suffix,List.suffix_iff_eq_drop,decide_eq_true_eq]
  exact eq_comm
theorem prefix_le {s p:Str} (h:Lib.hasPrefix s p=true):p.length≤s.length:=by
  rw[prefix_take,decide_eq_true_eq] at h
  have:=congrArg List.length h
  simp at this
  omega
theorem suffix_le {s p:Str} (h:Lib.hasSuffix s p=true):p.length≤s.length:=by
  rw[suffix_drop,decide_eq_true_eq] at h
  have:=congrArg List.length h
  simp at this
  omega
@[simp] def S_strings_HasPrefix:List D→Prop × D:=spec2 (α:=Str) (β:=Str) (fun s _=>s.length≤9223372036854775807) (fun s p=>.bool (Lib.hasPrefix s p))
abbrev S_internal_stringslite_HasPrefix:=S_strings_HasPrefix
abbrev S_internal_stringslite_HasSuffix:=S_strings_HasSuffix
abbrev S_internal_stringslite_TrimSuffix:=S_strings_TrimSuffix
theorem ct_internal_stringslite_HasPrefix {P:Program} {f:Nat} {G:Gam} (h:CodeOf P f 2 3 [2] x_internal_stringslite_HasPrefix) (hG:GamOk P G):Has P f S_internal_stringslite_HasPrefix:=h.has2 hG fun s p hp=>by
  rw[prefix_take]
  by_cases hl:p.length≤s.length
  · simp[x_internal_stringslite_HasPrefix,hl]
  · have e:¬s.take p.length=p:=fun e=>by have:=congrArg List.length e;simp at this;omega
    simp[x_internal_stringslite_HasPrefix,hl,e]
theorem ct_strings_HasPrefix {P:Program} {f g1:Nat} {G:Gam} (h:CodeOf P f 2 3 [2] (x_strings_HasPrefix g1)) (hG:GamOk P G) (h1:G.find g1=some S_internal_stringslite_HasPrefix):Has P f S_strings_HasPrefix:=h.has2 hG fun s p hp=>by
  simp[x_strings_HasPrefix,h1,hp]
theorem ct_internal_stringslite_HasSuffix {P:Program} {f:Nat} {G:Gam} (h:CodeOf P f 2 3 [2] x_internal_stringslite_HasSuffix) (hG:GamOk P G):Has P f S_internal_stringslite_HasSuffix:=h.has2 hG fun s p hp=>by
  rw[suffix_drop]
  by_cases hl:p.length≤s.length
  · have w:IntKind.i64.wrap ((s.length:Int)-p.length)=((s.length-p.length:Nat):Int):=by rw[wrap_in (by omega) (by omega)];omega
    have hd:List.take (s.length-(s.length-p.length)) (s.drop (s.length-p.length))=s.drop (s.length-p.length):=List.take_of_length_le (by simp)
    simp[x_internal_stringslite_HasSuffix,hl,w,hd]
  · have e:¬s.drop (s.length-p.length)=p:=fun e=>by have:=congrArg List.length e;simp at this;omega
    simp[x_internal_stringslite_HasSuffix,hl,e]
theorem ct_strings_HasSuffix {P:Program} {f g1:Nat} {G:Gam} (h:CodeOf P f 2 3 [2] (x_strings_HasSuffix g1)) (hG:GamOk P G) (h1:G.find g1=some S_internal_stringslite_HasSuffix):Has P f S_strings_HasSuffix:=h.has2 hG fun s p hp=>by
  simp[x_strings_HasSuffix,h1,hp]
theorem ct_internal_stringslite_TrimSuffix {P:Program} {f g1:Nat} {G:Gam} (h:CodeOf P f 2 4 [2] (x_internal_stringslite_TrimSuffix g1)) (hG:GamOk P G) (h1:G.find g1=some S_internal_stringslite_HasSuffix):Has P f S_internal_stringslite_TrimSuffix:=h.has2 hG fun s p hp=>by
  cases c:Lib.hasSuffix s p with
  | true =>
    have hl:=suffix_le c
    have w:IntKind.i64.wrap ((s.length:Int)-p.length)=((s.length-p.length:Nat):Int):=by rw[wrap_in (by omega) (by omega)];omega
    have e:Lib.trimSuffix s p=s.take (s.length-p.length):=by unfold Lib.trimSuffix;rw[if_pos c]
    rw[e]
    simp[x_internal_stringslite_TrimSuffix,h1,hp,c,w]
  | false =>
    have e:Lib.trimSuffix s p=s:=by unfold Lib.trimSuffix;rw[if_neg (by rw[c];simp)]
    rw[e]
    simp[x_internal_stringslite_TrimSuffix,h1,hp,c]
theorem ct_strings_TrimSuffix {P:Program} {f g1:Nat} {G:Gam} (h:CodeOf P f 2 3 [2] (x_strings_TrimSuffix g1)) (hG:GamOk P G) (h1:G.find g1=some S_internal_stringslite_TrimSuffix):Has P f S_strings_TrimSuffix:=h.has2 hG fun s p hp=>by
  simp[x_strings_TrimSuffix,h1,hp]
def cutPre (s p:Str):Str:=if Lib.hasPrefix s p=true then s.drop p.length else s
def cutSuf (s p:Str):Str:=if Lib.hasSuffix s p=true then s.take (s.length-p.length) else s
@[simp] def S_strings_CutPrefix:List D→Prop × D:=spec2 (α:=Str) (β:=Str) (fun s _=>s.length≤9223372036854775807) (fun s p=>.tup [.str (cutPre s p),.bool (Lib.hasPrefix s p)])
abbrev S_internal_stringslite_CutPrefix:=S_strings_CutPrefix
@[simp] def S_strings_CutSuffix:List D→Prop × D:=spec2 (α:=Str) (β:=Str) (fun s _=>s.length≤9223372036854775807) (fun s p=>.tup [.str (cutSuf s p),.bool (Lib.hasSuffix s p)])
abbrev S_internal_stringslite_CutSuffix:=S_strings_CutSuffix
theorem ct_internal_stringslite_CutPrefix {P:Program} {f g1:Nat} {G:Gam} (h:CodeOf P f 2 5 [2,3] (x_internal_stringslite_CutPrefix g1)) (hG:GamOk P G) (h1:G.find g1=some S_internal_stringslite_HasPrefix):Has P f S_internal_stringslite_CutPrefix:=h.has2 hG fun s p hp=>by
  cases c:Lib.hasPrefix s p with
  | true =>
    have hl:=prefix_le c
    have e:cutPre s p=s.drop p.length:=by unfold cutPre;rw[if_pos c]
    have hd:List.take (s.length-p.length) (s.drop p.length)=s.drop p.length:=List.take_of_length_le (by simp)
    rw[e]
    simp[x_internal_stringslite_CutPrefix,h1,hp,c,hl,hd]
  | false =>
    have e:cutPre s p=s:=by unfold cutPre;rw[if_neg (by rw[c];simp)]
    rw[e]
    simp[x_internal_stringslite_CutPrefix,h1,hp,c]
theorem ct_strings_CutPrefix {P:Program} {f g1:Nat} {G:Gam} (h:CodeOf P f 2 4 [2,3] (x_strings_CutPrefix g1)) (hG:GamOk P G) (h1:G.find g1=some S_internal_stringslite_CutPrefix):Has P f S_strings_CutPrefix:=h.has2 hG fun s p hp=>by
  simp[x_strings_CutPrefix,h1,hp]
theorem ct_internal_stringslite_CutSuffix {P:Program} {f g1:Nat} {G:Gam} (h:CodeOf P f 2 5 [2,3] (x_internal_stringslite_CutSuffix g1)) (hG:GamOk P G) (h1:G.find g1=some S_internal_stringslite_HasSuffix):Has P f S_internal_stringslite_CutSuffix:=h.has2 hG fun s p hp=>by
  cases c:Lib.hasSuffix s p with
  | true =>
    have hl:=suffix_le c
    have w:IntKind.i64.wrap ((s.length:Int)-p.length)=((s.length-p.length:Nat):Int):=by rw[wrap_in (by omega) (by omega)];omega
    have e:cutSuf s p=s.take (s.length-p.length):=by unfold cutSuf;rw[if_pos c]
    rw[e]
    simp[x_internal_stringslite_CutSuffix,h1,hp,c,w]
  | false =>
    have e:cutSuf s p=s:=by unfold cutSuf;rw[if_neg (by rw[c];simp)]
    rw[e]
    simp[x_internal_stringslite_CutSuffix,h1,hp,c]
theorem ct_strings_CutSuffix {P:Program} {f g1:Nat} {G:Gam} (h:CodeOf P f 2 4 [2,3] (x_strings_CutSuffix g1)) (hG:GamOk P G) (h1:G.find g1=some S_internal_stringslite_CutSuffix):Has P f S_strings_CutSuffix:=h.has2 hG fun s p hp=>by
  simp[x_strings_CutSuffix,h1,hp]
@[simp] def S_strings_Split:List D→Prop × D:=spec2 (α:=Str) (β:=Str) (fun s sep=>sep.length=1∧s.length<4294967281) (fun s sep=>Rep.to (Lib.splitK sep 0 (Lib.count s sep) s))
theorem ct_strings_Split {P:Program} {f g:Nat} {G:Gam} (h:CodeOf P f 2 3 [2] (x_strings_Split g)) (hG:GamOk P G) (hg:G.find g=some S_strings_genSplit):Has P f S_strings_Split:=h.has2 hG fun s sep hp=>by
  obtain⟨h1,h2⟩:=hp
  simp[x_strings_Split,hg,h1,h2]
@[simp] def S_slices_Equal_string_string:List D→Prop × D:=spec2 (α:=List Str) (β:=List Str) (fun a _=>a.length≤9223372036854775807) (fun a b=>.bool (decide (a=b)))
theorem ct_slices_Equal_string_string {P:Program} {f:Nat} {G:Gam} (h:CodeOf P f 2 9 [2] x_slices_Equal_string_string) (hG:GamOk P G):Has P f S_slices_Equal_string_string:=h.has2 hG fun a b hp=>by
  by_cases hl:a.length=b.length
  · simp[x_slices_Equal_string_string,hl]
    refine vc_lp (σ:=Nat) (fun i=>i≤a.length∧∀j:Nat,j<i→a[j]?=b[j]?) (fun i=>a.length-i) (fun i=>[.d (.sl 1 (a.map Rep.to)),.d (.sl 1 (b.map Rep.to)),.any,.any,.any,.d (.int .i64 b.length),.d (.int .i64 i),.any,.any]) (fun _=>[]) 0 (by simp) (by simp) ⟨by simp,by simp⟩ ?_
    rintro i ⟨k1,k2⟩
    by_cases hi:i<a.length
    · have hib:i<b.length:=by omega
      have w:IntKind.i64.wrap ((i:Int)+1)=(i:Int)+1:=wrap_in (by omega) (by omega)
      by_cases c:a[i]=b[i]
      · simp[hi,hib,c,w]
        exact Nxt.mk (i+1) (by omega) (by simp) (by simp) ⟨by omega,fun j hj=>by
          by_cases hji:j<i
          · exact k2 j hji
          · obtain rfl:j=i:=by omega
            rw[List.getElem?_eq_getElem hi,List.getElem?_eq_getElem hib,c]⟩
      · have e:¬a=b:=fun e=>c (by subst e;rfl)
        simp[hi,hib,c,e]
    · have e:a=b:=List.ext_getElem? fun j=>by
        by_cases hj:j<i
        · exact k2 j hj
        · rw[List.getElem?_eq_none (by omega),List.getElem?_eq_none (by omega)]
      have hib:¬i<b.length:=by omega
      simp[hib,e]
  · have e:¬a=b:=fun e=>hl (by rw[e])
    simp[x_slices_Equal_string_string,hl,e]
    omega
@[simp] def S_strings_Repeat:List D→Prop × D:=spec2 (α:=Str) (β:=Int) (fun s c=>0≤c∧s.length * c.toNat≤140737488355328∧c≤9223372036854775807) (fun s c=>.str (Lib.repeatL s c.toNat))
def linesS (s:Str):List Str × Bool :=
  if s=[] then ([],true) else if Lib.hasSuffix s [10]=true then (Lib.splitK [10] 0 (Lib.count (cutSuf s [10]) [10]) (cutSuf s [10]),true) else ([],false)
def nameV (line p:Str):Str × Bool :=
  if Lib.hasPrefix line p=true then (match unqV (line.drop p.length) 0 with
    | none=>([],false)
    | some x=>(x.1,decide (x.2=(line.drop p.length).length))) else ([],false)
def spanV (line:Str) (a:Nat) (p:Str):Option (Int × Nat) :=
  if Lib.hasPrefix (line.drop a) p=true then (match rangeV line ((a+p.length:Nat):Int) with
    | none=>none
    | some x=>some (x.1,x.2.2)) else none
def headS (line:Str):Option (Int × Int):=match spanV line 0 [64,64,32,45] with
  | none=>none
  | some x=>match spanV line x.2 [32,43] with
    | none=>none
    | some y=>if line.drop y.2=[32,64,64] then some (x.1,y.1) else none
structure PsT where
  old:Str
  new:Str
  done:List PHunkT
  cur:Option PHunkT
def unendL:Str:=[92,32,78,111,32,110,101,119,108,105,110,101,32,97,116,32,101,110,100,32,111,102,32,102,105,108,101]
def endLast:List PLineT→List PLineT
  | []=>[]
  | [x]=>[⟨x.kind,Lib.trimSuffix x.text [10]⟩]
  | x::y::r=>x::endLast (y::r)
def contV (x:PsT) (line:Str):PsT × Bool:=match x.cur with
  | none=>(x,false)
  | some h=>(⟨x.old,x.new,x.done,some ⟨h.old,h.new,h.lines++[⟨(line.getD 0 0).toNat,line.drop 1++[10]⟩]⟩⟩,true)
def unenV (x:PsT) (line:Str):PsT × Bool:=match x.cur with
  | none=>(x,false)
  | some h=>if h.lines=[]∨line≠unendL then (x,false) else (⟨x.old,x.new,x.done,some ⟨h.old,h.new,endLast h.lines⟩⟩,true)
def stepV2 (x:PsT) (line:Str):Option PsT :=
  if line=[] then none else
    if line.getD 0 0=64 then (match headS line with
      | none=>none
      | some y=>some ⟨x.old,x.new,x.done++x.cur.toList,some ⟨y.1,y.2,[]⟩⟩) else
      if line.getD 0 0=32∨line.getD 0 0=45∨line.getD 0 0=43 then (if (contV x line).2=true then some (contV x line).1 else none) else
        if line.getD 0 0=92 then (if (unenV x line).2=true then some (unenV x line).1 else none) else none
def foldP:PsT→List Str→Option PsT
  | x,[]=>some x
  | x,l::r=>match stepV2 x l with
    | none=>none
    | some y=>foldP y r
def PsT.hunks (x:PsT):List PHunkT:=x.done++x.cur.toList
def parseV (l:List Str):Option PatchT :=
  if l.length<2 then none else
    if (nameV (l.getD 0 []) [45,45,45,32]).2=true∧(nameV (l.getD 1 []) [43,43,43,32]).2=true then
      (match foldP ⟨(nameV (l.getD 0 []) [45,45,45,32]).1,(nameV (l.getD 1 []) [43,43,43,32]).1,[],none⟩ (l.drop 2) with
      | none=>none
      | some x=>some ⟨x.old,x.new,x.hunks⟩)
    else none
def readP (s:Str):PatchT × Int :=
  if 16777216<s.length then (⟨[],[],[]⟩,1) else if (linesS s).2=false then (⟨[],[],[]⟩,4) else
    match parseV (linesS s).1 with
    | none=>(⟨[],[],[]⟩,4)
    | some p=>if chkP p=0∧writV p=s then (p,0) else (⟨[],[],[]⟩,4)
theorem readP_ok {s:Str} (h:(readP s).2=0):chkP (readP s).1=0∧writV (readP s).1=s:=by
  unfold readP at *
  split
  · rename_i c;rw[if_pos c] at h;simp at h
  · rename_i c
    rw[if_neg c] at h
    split
    · rename_i c2;rw[if_pos c2] at h;simp at h
    · rename_i c2
      rw[if_neg c2] at h
      cases hp:parseV (linesS s).1 with
      | none=>rw[hp] at h;simp at h
      | some p =>
        rw[hp] at h
        simp only at h ⊢
        by_cases c3:chkP p=0∧writV p=s
        · rw[if_pos c3];exact c3
        · rw[if_neg c3] at h;simp at h
/-! ### how great it may become -/
def lineM (x:PLineT):Nat:=30+x.text.length
def hunkM (h:PHunkT):Nat:=100+(h.lines.map lineM).sum
def hunksM (l:List PHunkT):Nat:=(l.map hunkM).sum
theorem lineW_le (x:PLineT):(lineW x).length≤lineM x:=by
  unfold lineW lineM
  have:unendS.length=29:=rfl
  split <;> simp[this] <;> omega
theorem linesW_le:∀l:List PLineT,(l.flatMap lineW).length≤(l.map lineM).sum
  | []=>by simp
  | x::r=>by
    have:=linesW_le r
    have:=lineW_le x
    simp only[List.flatMap_cons,List.length_append,List.map_cons,List.sum_cons]
    omega
theorem hunkW_le (h:PHunkT):(hunkW h).length≤hunkM h:=by
  have h1:=head_len h
  have h2:=linesW_le h.lines
  unfold hunkW hunkM
  rw[List.length_append]
  omega
theorem hunksW_le:∀l:List PHunkT,(l.flatMap hunkW).length≤hunksM l
  | []=>by simp
  | x::r=>by
    have:=hunksW_le r
    have:=hunkW_le x
    simp only[List.flatMap_cons,List.length_append,hunksM,List.map_cons,List.sum_cons] at *
    omega
theorem hunksM_app (a b:List PHunkT):hunksM (a++b)=hunksM a+hunksM b:=by simp[hunksM]
def PsT.M (x:PsT):Nat:=hunksM x.hunks
structure PsOk (x:PsT) (N:Nat):Prop where
  m:x.M≤N
  none:x.cur=Option.none→x.done=[]
  oks:∀h,h∈x.hunks→HunkOk h
  old:x.old.length≤1048576
  new:x.new.length≤1048576
theorem lines_leM (l:List PLineT):30 * l.length≤(l.map lineM).sum:=by
  induction l with
  | nil=>simp
  | cons x r ih=>simp only[List.length_cons,List.map_cons,List.sum_cons,lineM] at *;omega
theorem hunks_leM (l:List PHunkT):100 * l.length≤hunksM l:=by
  induction l with
  | nil=>simp
  | cons x r ih=>simp only[List.length_cons,hunksM,List.map_cons,List.sum_cons,hunkM] at *;omega
theorem hunk_leM {l:List PHunkT} {h:PHunkT} (hh:h∈l):hunkM h≤hunksM l:=by
  induction l with
  | nil=>simp at hh
  | cons x r ih =>
    simp only[hunksM,List.map_cons,List.sum_cons] at *
    rcases List.mem_cons.1 hh with rfl | hh
    · omega
    · have:=ih hh;omega
theorem endLast_spec:∀l:List PLineT,((endLast l).map lineM).sum≤(l.map lineM).sum∧(endLast l).length=l.length∧∀y,y∈endLast l→∃x,x∈l∧y.kind=x.kind∧y.text.length≤x.text.length
  | []=>⟨Nat.le_refl _,rfl,fun y hy=>by simp[endLast] at hy⟩
  | [x]=>by
    have:(Lib.trimSuffix x.text [10]).length≤x.text.length:=by unfold Lib.trimSuffix;split <;> simp
    refine⟨by simp[endLast,lineM];omega,rfl,fun y hy=>?_⟩
    simp[endLast] at hy
    subst hy
    exact⟨x,by simp,rfl,this⟩
  | x::y::r=>by
    obtain⟨h1,h2,h3⟩:=endLast_spec (y::r)
    refine⟨by simp only[endLast,List.map_cons,List.sum_cons] at *;omega,by simp only[endLast,List.length_cons] at *;omega,fun z hz=>?_⟩
    simp only[endLast,List.mem_cons] at hz
    rcases hz with rfl | hz
    · exact⟨z,by simp,rfl,Nat.le_refl _⟩
    · obtain⟨u,hu,h4⟩:=h3 z (by simpa using hz)
      exact⟨u,by simp at hu ⊢;exact .inr hu,h4⟩
theorem PsOk.step {x y:PsT} {N:Nat} {line:Str} (h:PsOk x N) (hs:stepV2 x line=some y) (hl:line.length≤1048576) (hN:N≤1000000000):PsOk y (N+131+line.length):=by
  unfold stepV2 at hs
  split at hs
  · cases hs
  · split at hs
    · split at hs
      · cases hs
      · rename_i z hz
        cases hs
        refine⟨?_,by simp,fun g hg=>?_,h.old,h.new⟩
        · have:=h.m
          simp only[PsT.M,PsT.hunks,Option.toList_some,hunksM_app] at *
          simp[hunksM,hunkM] at *
          omega
        · simp only[PsT.hunks,Option.toList_some,List.mem_append,List.mem_singleton] at hg
          rcases hg with hg | rfl
          · exact h.oks g (by simpa [PsT.hunks] using hg)
          · exact⟨by simp,by simp⟩
    · split at hs
      · unfold contV at hs
        cases hc:x.cur with
        | none=>rw[hc] at hs;simp at hs
        | some c =>
          rw[hc] at hs
          simp only[if_true,Option.some.injEq] at hs
          subst hs
          have hm:=h.m
          have hco:HunkOk c:=h.oks c (by simp[PsT.hunks,hc])
          have hcm:hunkM c≤hunksM x.hunks:=hunk_leM (by simp[PsT.hunks,hc])
          have hcl:=lines_leM c.lines
          refine⟨?_,by simp,fun g hg=>?_,h.old,h.new⟩
          · simp only[PsT.M,PsT.hunks,hc,Option.toList_some,hunksM_app] at *
            simp[hunksM,hunkM,lineM] at *
            omega
          · simp only[PsT.hunks,Option.toList_some,List.mem_append,List.mem_singleton] at hg
            rcases hg with hg | rfl
            · exact h.oks g (by simp[PsT.hunks,hg])
            · refine⟨?_,fun u hu=>?_⟩
              · simp only[PsT.M] at hm
                simp only[hunkM] at hcm
                simp
                omega
              · simp only[List.mem_append,List.mem_singleton] at hu
                rcases hu with hu | rfl
                · exact hco.2 u hu
                · have:=(line.getD 0 0).toNat_lt
                  refine⟨by simp;omega,by simp only;omega,by simp only;omega⟩
      · split at hs
        · unfold unenV at hs
          cases hc:x.cur with
          | none=>rw[hc] at hs;simp at hs
          | some c =>
            rw[hc] at hs
            simp only at hs
            by_cases hb:c.lines=[]∨line≠unendL
            · rw[if_pos hb] at hs;simp at hs
            · rw[if_neg hb] at hs
              simp only[if_true,Option.some.injEq] at hs
              subst hs
              have hm:=h.m
              have hco:HunkOk c:=h.oks c (by simp[PsT.hunks,hc])
              obtain⟨e1,e2,e3⟩:=endLast_spec c.lines
              refine⟨?_,by simp,fun g hg=>?_,h.old,h.new⟩
              · simp only[PsT.M,PsT.hunks,hc,Option.toList_some,hunksM_app] at *
                simp[hunksM,hunkM] at *
                omega
              · simp only[PsT.hunks,Option.toList_some,List.mem_append,List.mem_singleton] at hg
                rcases hg with hg | rfl
                · exact h.oks g (by simp[PsT.hunks,hg])
                · refine⟨by simp only[e2];exact hco.1,fun u hu=>?_⟩
                  obtain⟨w,hw,hk,ht⟩:=e3 u hu
                  have:=hco.2 w hw
                  exact⟨by omega,by rw[hk];exact this.2.1,by rw[hk];exact this.2.2⟩
        · cases hs
def linesSD (s:Str):D:=if s=[] then .tup [.nilsl,.bool true] else if Lib.hasSuffix s [10]=true then .tup [Rep.to (linesS s).1,.bool true] else .tup [.nilsl,.bool false]
@[simp] def S_strict_Lines:List D→Prop × D:=spec1 (α:=Str) (fun s=>s.length≤16777216) (fun s=>linesSD s)
theorem ct_strict_Lines {P:Program} {f g1 g2:Nat} {G:Gam} (h:CodeOf P f 1 6 [1,2] (x_strict_Lines g1 g2)) (hG:GamOk P G) (h1:G.find g1=some S_strings_CutSuffix) (h2:G.find g2=some S_strings_Split):Has P f S_strict_Lines:=h.has1 hG fun s hp=>by
  by_cases c:s=[]
  · subst c
    have e:linesSD []=.tup [.nilsl,.bool true]:=rfl
    rw[e]
    simp[x_strict_Lines]
  · cases c2:Lib.hasSuffix s [10] with
    | true =>
      have hl:(cutSuf s [10]).length≤s.length:=by unfold cutSuf;split <;> simp
      have e:linesSD s=.tup [Rep.to (Lib.splitK [10] 0 (Lib.count (cutSuf s [10]) [10]) (cutSuf s [10])),.bool true]:=by
        unfold linesSD linesS
        rw[if_neg c,if_pos c2,if_neg c,if_pos c2]
      rw[e]
      simp[x_strict_Lines,c,h1,c2,h2,show s.length≤9223372036854775807 by omega,show (cutSuf s [10]).length<4294967281 by omega]
    | false =>
      have e:linesSD s=.tup [.nilsl,.bool false]:=by
        unfold linesSD
        rw[if_neg c,if_neg (by rw[c2];simp)]
      rw[e]
      simp[x_strict_Lines,c,h1,c2,show s.length≤9223372036854775807 by omega]
@[simp] def S_strict_name:List D→Prop × D:=spec2 (α:=Str) (β:=Str) (fun l _=>l.length≤1048576) (fun l p=>.tup [.str (nameV l p).1,.bool (nameV l p).2])
theorem ct_strict_name {P:Program} {f g1 g2:Nat} {G:Gam} (h:CodeOf P f 2 9 [2,3] (x_strict_name g1 g2)) (hG:GamOk P G) (h1:G.find g1=some S_strings_CutPrefix) (h2:G.find g2=some S_scan_Unquote):Has P f S_strict_name:=h.has2 hG fun l p hp=>by
  have hl:l.length≤9223372036854775807:=by omega
  cases c:Lib.hasPrefix l p with
  | true =>
    have e:cutPre l p=l.drop p.length:=by unfold cutPre;rw[if_pos c]
    have hd:(l.drop p.length).length≤1048576:=by simp;omega
    have en:nameV l p=match unqV (l.drop p.length) 0 with
      | none=>([],false)
      | some x=>(x.1,decide (x.2=(l.drop p.length).length)):=by unfold nameV;rw[if_pos c] <;> rfl
    generalize l.drop p.length=r at *
    cases hu:unqV r 0 with
    | none =>
      rw[hu] at en
      rw[en]
      simp[x_strict_name,h1,hl,c,e,h2,hd,hu,optW]
    | some x =>
      rw[hu] at en
      rw[en]
      simp[x_strict_name,h1,hl,c,e,h2,hd,hu,optW]
      omega
  | false =>
    have en:nameV l p=([],false):=by unfold nameV;rw[if_neg (by rw[c];simp)]
    rw[en]
    simp[x_strict_name,h1,hl,c]
theorem rangeV_rng {s:Str} {a:Int} {x:Int × Int × Nat} (h:rangeV s a=some x):a.toNat≤x.2.2∧x.2.2≤s.length:=by
  unfold rangeV at h
  split at h
  · cases h
  · rename_i n e hn
    obtain⟨_,_,_,h1,h2⟩:=numV_rng hn
    simp only at h1 h2
    unfold rangeV.rangeC at h
    split at h
    · cases h
    · rename_i c e2 hc
      generalize (if 0<c then n-1 else n)=z at h
      split at h
      · cases h
        simp only
        split at hc
        · obtain⟨_,_,_,h3,h4⟩:=numV_rng hc
          simp only at h3 h4
          omega
        · cases hc
          exact⟨h1,h2⟩
      · cases h
theorem spanV_rng {l:Str} {a:Nat} {p:Str} {x:Int × Nat} (h:spanV l a p=some x):a≤x.2∧x.2≤l.length:=by
  unfold spanV at h
  split at h
  · split at h
    · cases h
    · rename_i y hy
      cases h
      have:=rangeV_rng hy
      simp only at this ⊢
      omega
  · cases h
def optS (o:Option (Int × Nat)):D:=match o with
  | some x=>.tup [.int .i64 x.1,.int .i64 x.2,.bool true]
  | none=>.tup [.int .i64 0,.int .i64 0,.bool false]
@[simp] def S_strict_span:List D→Prop × D:=spec3 (α:=Str) (β:=Int) (γ:=Str) (fun l a p=>l.length≤1048576∧0≤a∧a≤l.length∧p.length≤1048576) (fun l a p=>optS (spanV l a.toNat p))
theorem ct_strict_span {P:Program} {f g1 g2:Nat} {G:Gam} (h:CodeOf P f 3 10 [3,4,5] (x_strict_span g1 g2)) (hG:GamOk P G) (h1:G.find g1=some S_strings_HasPrefix) (h2:G.find g2=some S_scan_Range):Has P f S_strict_span:=h.has3 hG fun l a p hp=>by
  obtain⟨p1,p2,p3,p4⟩:=hp
  obtain⟨k,rfl⟩:=Int.eq_ofNat_of_zero_le p2
  simp only[Int.toNat_natCast]
  have hk:k≤l.length:=by omega
  have hd:List.take (l.length-k) (l.drop k)=l.drop k:=List.take_of_length_le (by simp)
  have hdl:(l.drop k).length≤9223372036854775807:=by simp;omega
  have w1:IntKind.i64.wrap ((k:Int)+p.length)=((k+p.length:Nat):Int):=by rw[wrap_in (by omega) (by omega)];omega
  cases c:Lib.hasPrefix (l.drop k) p with
  | true =>
    have e:spanV l k p=match rangeV l ((k+p.length:Nat):Int) with
      | none=>none
      | some x=>some (x.1,x.2.2):=by unfold spanV;rw[if_pos c] <;> rfl
    cases hr:rangeV l ((k+p.length:Nat):Int) with
    | none =>
      rw[hr] at e
      rw[e]
      simp only[Int.natCast_add] at w1 hr
      simp[x_strict_span,hk,hd,h1,show l.length-k≤9223372036854775807 by omega,show l.length≤9223372036854775807+k by omega,c,w1,h2,p1,hr,optR,optS]
    | some x =>
      rw[hr] at e
      rw[e]
      simp only[Int.natCast_add] at w1 hr
      simp[x_strict_span,hk,hd,h1,show l.length-k≤9223372036854775807 by omega,show l.length≤9223372036854775807+k by omega,c,w1,h2,p1,hr,optR,optS]
  | false =>
    have e:spanV l k p=none:=by unfold spanV;rw[if_neg (by rw[c];simp)]
    rw[e]
    simp[x_strict_span,hk,hd,h1,show l.length-k≤9223372036854775807 by omega,show l.length≤9223372036854775807+k by omega,c,optS]
/-! ### the parser -/
def hkD (h:PHunkT):A:=.d (Rep.to h)
def lnD (l:PLineT):A:=.d (Rep.to l)
def obDone:Ob→List PHunkT
  | .cells _ _ xs=>xs.dropLast.map fun x=>(Rep.of x.toD).getD default
  | _=>[]
def obLines:Ob→List PLineT
  | .cells _ _ xs=>xs.map fun x=>(Rep.of x.toD).getD default
  | _=>[]
def obCur (o l:Ob):Option PHunkT:=match o with
  | .cells _ _ xs=>xs.getLast?.map fun y=>⟨(y.cells.getD 0 .any).gi,(y.cells.getD 1 .any).gi,obLines l⟩
  | _=>none
def hkC (i:Nat) (done:List PHunkT) (o n:Int) (m:Nat):List A:=done.map hkD++[.agg [.d (.int .i64 o),.d (.int .i64 n),.own i m 0 m]]
def lnC (l:List PLineT):List A:=l.map lnD
@[simp] theorem obDone_nil (v e:Nat):obDone (.cells v e [])=[]:=rfl
@[simp] theorem obDone_hk (v e i:Nat) (done:List PHunkT) (o n:Int) (m:Nat):obDone (.cells v e (hkC i done o n m))=done:=by
  simp only[obDone,hkC,List.dropLast_concat,List.map_map]
  refine (List.map_congr_left fun x _=>?_).trans (List.map_id _)
  simp[hkD,A.toD,Rep.of_to]
@[simp] theorem obLines_ln (v e:Nat) (l:List PLineT):obLines (.cells v e (lnC l))=l:=by
  simp only[obLines,lnC,List.map_map]
  refine (List.map_congr_left fun x _=>?_).trans (List.map_id _)
  simp[lnD,A.toD,Rep.of_to]
@[simp] theorem obCur_nil (v e:Nat) (l:Ob):obCur (.cells v e []) l=none:=rfl
@[simp] theorem obCur_hk (v e i:Nat) (done:List PHunkT) (o n:Int) (m:Nat) (l:Ob):obCur (.cells v e (hkC i done o n m)) l=some ⟨o,n,obLines l⟩:=by
  simp[obCur,hkC,A.cells]
theorem objsL_app:∀a b:List A,A.objsL (a++b)=A.objsL a++A.objsL b
  | [],b=>by simp[A.objsL]
  | x::a,b=>by simp only[List.cons_append,A.objsL,objsL_app a b,List.append_assoc]
theorem objsL_d {α:Type} (f:α→D):∀l:List α,A.objsL (l.map fun x=>.d (f x))=[]
  | []=>rfl
  | x::l=>by simp only[List.map_cons,A.objsL,A.objs,objsL_d f l,List.nil_append]
@[simp] theorem objsL_hk (i:Nat) (done:List PHunkT) (o n:Int) (m:Nat):A.objsL (hkC i done o n m)=[i]:=by
  unfold hkC
  rw[objsL_app]
  have:A.objsL (done.map hkD)=[]:=objsL_d Rep.to done
  rw[this]
  rfl
@[simp] theorem objsL_ln (l:List PLineT):A.objsL (lnC l)=[]:=objsL_d Rep.to l
@[simp] theorem ren_hk (q:Nat→Nat) (i:Nat) (done:List PHunkT) (o n:Int) (m:Nat):(hkC i done o n m).map (A.ren q)=hkC (q i) done o n m:=by
  unfold hkC
  rw[List.map_append,List.map_map]
  rfl
@[simp] theorem ren_ln (q:Nat→Nat) (l:List PLineT):(lnC l).map (A.ren q)=lnC l:=by
  unfold lnC
  rw[List.map_map]
  rfl
theorem hkC_under (i:Nat) (done:List PHunkT) (o n:Int) (m k:Nat):(hkC i done o n m).all (A.under k)=decide (i<k):=by
  have:(done.map hkD).all (A.under k)=true:=by simp[hkD]
  unfold hkC
  rw[List.all_append,this]
  simp
theorem lnC_under (l:List PLineT) (k:Nat):(lnC l).all (A.under k)=true:=by
  simp[lnC,lnD]
@[simp] theorem hk_under (i:Nat) (done:List PHunkT) (o n:Int) (m k:Nat):(∀x,x∈hkC i done o n m→A.under k x=true)=(i<k):=by
  have:=hkC_under i done o n m k
  rw[Bool.eq_iff_iff,List.all_eq_true,decide_eq_true_eq] at this
  exact propext this
@[simp] theorem ln_under (l:List PLineT) (k:Nat):(∀x,x∈lnC l→A.under k x=true)=True:=by
  have:=lnC_under l k
  rw[List.all_eq_true] at this
  exact eq_true this
def psV (st:Store):PsT:=⟨((st.getD 0 .dead).at 0 0).gs,((st.getD 0 .dead).at 0 1).gs,obDone (st.getD 1 .dead),obCur (st.getD 1 .dead) (st.getD 2 .dead)⟩
def psP (i:Nat) (x:PsT) (k:Nat):Ob:=.cells 0 3 [.agg [.d (.str x.old),.d (.str x.new),.own i k 0 k]]
def psB (b:Nat) (x:PsT):Store:=match x.cur with
  | none=>[psP (b+1) x 0,.cells 0 3 []]
  | some h=>[psP (b+1) x (x.done.length+1),.cells (x.done.length+1) 3 (hkC (b+2) x.done h.old h.new h.lines.length),.cells h.lines.length 2 (lnC h.lines)]
abbrev psS (x:PsT):Store:=psB 0 x
theorem psV_psS {x:PsT} (h:x.cur=none→x.done=[]):psV (psS x)=x:=by
  obtain⟨old,new,done,cur⟩:=x
  cases cur with
  | none =>
    have:done=[]:=h rfl
    subst this
    simp[psV,psB,psP,A.cells]
  | some c=>simp[psV,psB,psP,A.cells]
theorem hkC_len (i:Nat) (done:List PHunkT) (o n:Int) (m:Nat):(hkC i done o n m).length=done.length+1:=by simp[hkC]
theorem lnC_len (l:List PLineT):(lnC l).length=l.length:=by simp[lnC]
theorem psS_under (x:PsT):(psS x).all (Ob.under (psS x).length)=true:=by
  obtain⟨old,new,done,cur⟩:=x
  cases cur with
  | none=>simp[psB,psP]
  | some c=>simp[psB,psP]
@[simp] def F_strict_last:RF PsT where
  new:=0
  view _ st:=psV st
  args _:=[.ref 0 0 0 0]
  st x:=psS x
  pre x:=(x.cur=none→x.done=[])∧x.done.length≤1000000000
  res x:=match x.cur with
    | none=>.d .nilp
    | some _=>.ref 1 (x.done.length+1) x.done.length 0
  st' x:=psS x
abbrev R_strict_parser_last:RSpec:=F_strict_last.spec
theorem ct_strict_parser_last {P:Program} {f:Nat} {G:Gam} (hc:CodeOf P f 1 3 [1] x_strict_parser_last) (hG:GamOk P G):RSpec.Ok P f R_strict_parser_last:=by
  refine RF.ok hc.call fun x hx=>hc.rcalls hG rfl ?_
  obtain⟨old,new,done,cur⟩:=x
  obtain⟨h0,h1⟩:=hx
  simp only at h0 h1
  cases cur with
  | none =>
    simp[x_strict_parser_last,startA,psB,psP]
    exact FinR.done (by simp) (by simp) rfl (by simp[resOf,resE]) (by simp) (by simp)
  | some c =>
    have w1:IntKind.i64.wrap (done.length:Int)=(done.length:Int):=wrap_in (by omega) (by omega)
    have hl:=hkC_len 2 done c.old c.new c.lines.length
    simp[x_strict_parser_last,startA,psB,psP,w1,show ¬(done.length:Int)+1=0 by omega]
    refine⟨by omega,FinR.done (by simp) (by simp) rfl (by simp[resOf,resE]) ?_ (by simp)⟩
    exact psS_under ⟨old,new,done,some c⟩
structure PlX where
  x:PsT
  line:Str
def newE (a b:Int):A:=.d (.agg [.int .i64 a,.int .i64 b,.nilsl])
def psH (x:PsT) (a b:Int):Store:=match x.cur with
  | none=>[psP 1 x 1,.cells 1 3 [newE a b]]
  | some h=>[psP 1 x (x.done.length+1+1),.cells (x.done.length+1+1) 3 (hkC 2 x.done h.old h.new h.lines.length++[newE a b]),.cells h.lines.length 2 (lnC h.lines)]
theorem psH_under (x:PsT) (a b:Int):(psH x a b).all (Ob.under (psH x a b).length)=true:=by
  obtain⟨old,new,done,cur⟩:=x
  cases cur with
  | none=>simp[psH,psP,newE]
  | some c =>
    have h1:=hkC_under 2 done c.old c.new c.lines.length 3
    have h2:=lnC_under c.lines 3
    simp only[psH,psP,List.length_cons,List.length_nil,List.all_cons,List.all_nil,Ob.under,Bool.and_true,Nat.zero_add,List.all_append,h1,h2]
    simp[newE]
@[simp] def F_strict_header:RF PlX where
  new:=0
  view a st:=⟨psV st,(a.getD 1 .any).gs⟩
  args x:=[.ref 0 0 0 0,.d (.str x.line)]
  st x:=psS x.x
  pre x:=(x.x.cur=none→x.x.done=[])∧x.x.done.length≤1000000000∧x.line.length≤1048576
  res x:=.d (.bool (headS x.line).isSome)
  st' x:=match headS x.line with
    | none=>psS x.x
    | some y=>psH x.x y.1 y.2
abbrev R_strict_parser_header:RSpec:=F_strict_header.spec
theorem ct_strict_parser_header {P:Program} {f g1:Nat} {G:Gam} (hc:CodeOf P f 2 9 [2] (x_strict_parser_header g1)) (hG:GamOk P G) (h1:G.find g1=some S_strict_span):RSpec.Ok P f R_strict_parser_header:=by
  refine RF.ok hc.call fun x hx=>hc.rcalls hG rfl ?_
  obtain⟨x,line⟩:=x
  obtain⟨h0,hd,hl⟩:=hx
  simp only at h0 hd hl
  have und:=psS_under x
  cases hs:spanV line 0 [64,64,32,45] with
  | none =>
    have e:headS line=none:=by unfold headS;rw[hs]
    simp only[F_strict_header,e]
    simp[x_strict_parser_header,startA,h1,hl,hs,optS]
    exact FinR.done (by simp) (by simp) rfl (by simp[resOf,resE]) und (by simp)
  | some y =>
    obtain⟨a,at1⟩:=y
    have hr:=(spanV_rng hs).2
    simp only at hr
    cases hs2:spanV line at1 [32,43] with
    | none =>
      have e:headS line=none:=by unfold headS;rw[hs];simp only;rw[hs2]
      simp only[F_strict_header,e]
      simp[x_strict_parser_header,startA,h1,hl,hs,optS,hr,hs2]
      exact FinR.done (by simp) (by simp) rfl (by simp[resOf,resE]) und (by simp)
    | some z =>
      obtain⟨b,at2⟩:=z
      have hr2:=(spanV_rng hs2).2
      simp only at hr2
      have hdt:List.take (line.length-at2) (line.drop at2)=line.drop at2:=List.take_of_length_le (by simp)
      by_cases c:line.drop at2=[32,64,64]
      · have e:headS line=some (a,b):=by unfold headS;rw[hs];simp only;rw[hs2];simp only;rw[if_pos c]
        simp only[F_strict_header,e]
        have c2:List.take (line.length-at2) (line.drop at2)=[32,64,64]:=by rw[hdt,c]
        obtain⟨old,new,done,cur⟩:=x
        have und2:=psH_under ⟨old,new,done,cur⟩ a b
        cases cur with
        | none =>
          simp only[psH,psP,newE] at und2
          simp[x_strict_parser_header,startA,h1,hl,hs,optS,hr,hs2,hr2,c2,psB,psP,psH,newE]
          refine⟨by unfold room;omega,FinR.done (by simp) (by simp) rfl (by simp[resOf,resE]) und2 (by simp)⟩
        | some h =>
          have hkl:=hkC_len 2 done h.old h.new h.lines.length
          simp only[psH,psP,newE] at und2
          simp[x_strict_parser_header,startA,h1,hl,hs,optS,hr,hs2,hr2,c2,psB,psP,psH,newE,hkl]
          refine⟨by simp only at hd;unfold room;omega,FinR.done (by simp) (by simp) rfl (by simp[resOf,resE]) und2 (by simp)⟩
      · have e:headS line=none:=by unfold headS;rw[hs];simp only;rw[hs2];simp only;rw[if_neg c]
        simp only[F_strict_header,e]
        simp[x_strict_parser_header,startA,h1,hl,hs,optS,hr,hs2,hr2,hdt,c]
        exact FinR.done (by simp) (by simp) rfl (by simp[resOf,resE]) und (by simp)
@[simp] theorem hkC_at (i:Nat) (done:List PHunkT) (o n:Int) (m:Nat):(hkC i done o n m)[done.length]?=some (.agg [.d (.int .i64 o),.d (.int .i64 n),.own i m 0 m]):=by
  simp[hkC]
theorem hkC_set (i:Nat) (done:List PHunkT) (o n a b:Int) (m k:Nat):(hkC i done o n m).set done.length (.agg [.d (.int .i64 a),.d (.int .i64 b),.own i k 0 k])=hkC i done a b k:=by
  simp[hkC]
theorem lnC_app (l:List PLineT) (k:Int) (t:Str):lnC l++[.d (.agg [.int .u8 k,.str t])]=lnC (l++[⟨k,t⟩]):=by simp[lnC,lnD]
@[simp] def F_strict_content:RF PlX where
  new:=0
  view a st:=⟨psV st,(a.getD 1 .any).gs⟩
  args x:=[.ref 0 0 0 0,.d (.str x.line)]
  st x:=psS x.x
  pre x:=((x.x.cur=none→x.x.done=[])∧x.x.done.length≤1000000000∧(∀h,x.x.cur=some h→h.lines.length≤1000000000))∧x.line≠[]∧x.line.length≤1048576
  res x:=.d (.bool (contV x.x x.line).2)
  st' x:=psS (contV x.x x.line).1
abbrev R_strict_parser_content:RSpec:=F_strict_content.spec
theorem ct_strict_parser_content {P:Program} {f g1:Nat} {G:Gam} (hc:CodeOf P f 2 5 [2] (x_strict_parser_content g1)) (hG:GamOk P G) (h1:G.findR g1=some R_strict_parser_last):RSpec.Ok P f R_strict_parser_content:=by
  refine RF.ok hc.call fun x hx=>hc.rcalls hG rfl ?_
  obtain⟨⟨old,new,done,cur⟩,line⟩:=x
  obtain⟨⟨h0,hd,hls⟩,hne,hl⟩:=hx
  simp only at h0 hd hls hne hl
  cases cur with
  | none =>
    have hdn:done=[]:=h0 rfl
    subst hdn
    have und:=psS_under ⟨old,new,[],none⟩
    have hv:=psV_psS (x:=⟨old,new,[],none⟩) (fun _=>rfl)
    simp only[psB,psP] at und hv
    simp[x_strict_parser_content,startA,contV,psB,psP,eRCall,h1,hv]
    exact FinR.done (by simp) (by simp) rfl (by simp[resOf,resE]) und (by simp)
  | some h =>
    have und:=psS_under ⟨old,new,done,some h⟩
    have hv:=psV_psS (x:=⟨old,new,done,some h⟩) (fun h=>by cases h)
    have hkl:=hkC_len 2 done h.old h.new h.lines.length
    have hh:=hls h rfl
    simp only[psB,psP] at und hv
    have hln:=lnC_len h.lines
    have hne2:0<line.length:=List.length_pos_iff.2 hne
    obtain⟨_,hat⟩:=List.getElem?_eq_some_iff.1 (hkC_at 2 done h.old h.new h.lines.length)
    have htl:List.take (line.length-1) line.tail=line.tail:=List.take_of_length_le (by simp)
    have hset:=fun k=>hkC_set 2 done h.old h.new h.old h.new h.lines.length k
    have hap:=lnC_app h.lines ((line[0]'hne2).toNat:Int) (line.tail++[10])
    simp[x_strict_parser_content,startA,contV,psB,psP,eRCall,h1,hv,hkC_at,hkl,hln,hat,hd,hne2,htl,hap,hset,show line.length≤9223372036854775807 by omega]
    refine⟨by omega,by unfold room;omega,FinR.done (by simp) (by simp) rfl (by simp[resOf,resE]) (by simp) (by simp)⟩
@[simp] def F_strict_unended:RF PlX where
  new:=0
  view a st:=⟨psV st,(a.getD 1 .any).gs⟩
  args x:=[.ref 0 0 0 0,.d (.str x.line)]
  st x:=psS x.x
  pre x:=((x.x.cur=none→x.x.done=[])∧x.x.done.length≤1000000000∧(∀h,x.x.cur=some h→h.lines.length≤1000000000∧TxtOk h.lines))∧x.line.length≤1048576
  res x:=.d (.bool (unenV x.x x.line).2)
  st' x:=match x.x.cur with
    | none=>psS x.x
    | some h=>if h.lines=[]∨x.line≠unendL then psS x.x else
      [psP 1 x.x (x.x.done.length+1),.cells (x.x.done.length+1) 3 (hkC 2 x.x.done h.old h.new h.lines.length),.cells h.lines.length 2 ((lnC h.lines).set (h.lines.length-1) (.agg [.d (.int .u8 (h.lines.getD (h.lines.length-1) default).kind),.d (.str (Lib.trimSuffix (h.lines.getD (h.lines.length-1) default).text [10]))]))]
abbrev R_strict_parser_unended:RSpec:=F_strict_unended.spec
theorem lnC_at {l:List PLineT} {i:Nat} (h:i<l.length):(lnC l)[i]?=some (.d (.agg [.int .u8 l[i].kind,.str l[i].text])):=by
  simp[lnC,lnD,h]
theorem lnset_under (l:List PLineT) (k:Nat) (a:Int) (b:Str) (n:Nat):((lnC l).set k (.agg [.d (.int .u8 a),.d (.str b)])).all (A.under n)=true:=by
  rw[List.all_eq_true]
  intro x hx
  rcases List.mem_or_eq_of_mem_set hx with hx | rfl
  · have:=lnC_under l n
    rw[List.all_eq_true] at this
    exact this x hx
  · rfl
theorem ct_strict_parser_unended {P:Program} {f g1 g2:Nat} {G:Gam} (hc:CodeOf P f 2 6 [2] (x_strict_parser_unended g1 g2)) (hG:GamOk P G) (h2:G.find g1=some S_strings_TrimSuffix) (h1:G.findR g2=some R_strict_parser_last):RSpec.Ok P f R_strict_parser_unended:=by
  refine RF.ok hc.call fun x hx=>hc.rcalls hG rfl ?_
  obtain⟨⟨old,new,done,cur⟩,line⟩:=x
  obtain⟨⟨h0,hd,hls⟩,hl⟩:=hx
  simp only at h0 hd hls hl
  cases cur with
  | none =>
    have hdn:done=[]:=h0 rfl
    subst hdn
    have und:=psS_under ⟨old,new,[],none⟩
    have hv:=psV_psS (x:=⟨old,new,[],none⟩) (fun _=>rfl)
    simp only[psB,psP] at und hv
    simp[x_strict_parser_unended,startA,unenV,psB,psP,eRCall,h1,hv]
    exact FinR.done (by simp) (by simp) rfl (by simp[resOf,resE]) und (by simp)
  | some h =>
    have und:=psS_under ⟨old,new,done,some h⟩
    have hv:=psV_psS (x:=⟨old,new,done,some h⟩) (fun h=>by cases h)
    have hkl:=hkC_len 2 done h.old h.new h.lines.length
    obtain⟨hh,ht⟩:=hls h rfl
    have hln:=lnC_len h.lines
    obtain⟨_,hat⟩:=List.getElem?_eq_some_iff.1 (hkC_at 2 done h.old h.new h.lines.length)
    simp only[psB,psP] at und hv
    by_cases c:h.lines=[]
    · have hln0:(h.lines.length:Int)=0:=by rw[c];rfl
      obtain⟨ho,hn,hls⟩:=h
      simp only at c
      subst c
      simp only[List.length_nil] at hkl hln hat hv
      simp[x_strict_parser_unended,startA,unenV,psB,psP,eRCall,h1,hv,hkC_at,hkl,hat,hd]
      exact FinR.done (by simp) (by simp) rfl (by simp[resOf,resE]) (by simp) (by simp)
    · have hpos:0<h.lines.length:=List.length_pos_iff.2 c
      by_cases c2:line=unendL
      · have hu:[92,32,78,111,32,110,101,119,108,105,110,101,32,97,116,32,101,110,100,32,111,102,32,102,105,108,101]=unendL:=rfl
        have w1:IntKind.i64.wrap ((h.lines.length:Int)-1)=((h.lines.length-1:Nat):Int):=by rw[wrap_in (by omega) (by omega)];omega
        have hlt:h.lines.length-1<h.lines.length:=by omega
        have hla:=lnC_at hlt
        obtain⟨_,hla2⟩:=List.getElem?_eq_some_iff.1 hla
        have htx:=ht _ (List.getElem_mem hlt)
        have hgd:h.lines[h.lines.length-1]?=some h.lines[h.lines.length-1]:=List.getElem?_eq_getElem hlt
        generalize hk:h.lines.length-1=k at *
        simp[x_strict_parser_unended,startA,unenV,psB,psP,eRCall,h1,hv,hkC_at,hkl,hln,hat,hd,c,c2,hu,w1,hlt,hla,hla2,h2,show (h.lines[k]).text.length≤9223372036854775807 by omega]
        rw[hk,hgd]
        simp only[Option.getD_some]
        have hund:=lnset_under h.lines k h.lines[k].kind (Lib.trimSuffix h.lines[k].text [10]) 3
        refine FinR.done (by simp) (by simp) rfl (by simp[resOf,resE]) ?_ (by simp)
        simp only[List.length_cons,List.length_nil,List.all_cons,List.all_nil,Ob.under,Bool.and_true,Nat.zero_add,hund,hkC_under]
        simp
      · have c3:¬line=[92,32,78,111,32,110,101,119,108,105,110,101,32,97,116,32,101,110,100,32,111,102,32,102,105,108,101]:=c2
        simp[x_strict_parser_unended,startA,unenV,psB,psP,eRCall,h1,hv,hkC_at,hkl,hln,hat,hd,c,c2,c3]
        exact FinR.done (by simp) (by simp) rfl (by simp[resOf,resE]) (by simp) (by simp)
/-! ### which method reads a line -/
def chooseD (g1 g2 g3:Nat) (c:Int):D :=
  if c=64 then .fn (.func g1) [] [] else if c=32∨c=45∨c=43 then .fn (.func g2) [] [] else if c=92 then .fn (.func g3) [] [] else .nilfn
@[simp] def S_strict_choose (g1 g2 g3:Nat):List D→Prop × D:=spec1 (α:=U8T) (fun _=>True) (fun c=>chooseD g1 g2 g3 c.n)
def chL (g1 g2 g3:Nat):List D:=[.agg [.int .u8 64,.fn (.func g1) [] []],.agg [.int .u8 32,.fn (.func g2) [] []],.agg [.int .u8 45,.fn (.func g2) [] []],.agg [.int .u8 43,.fn (.func g2) [] []],.agg [.int .u8 92,.fn (.func g3) [] []]]
theorem ct_strict_choose {P:Program} {f g1 g2 g3:Nat} {G:Gam} (h:CodeOf P f 1 8 [1] (x_strict_choose g1 g2 g3)) (hG:GamOk P G):Has P f (S_strict_choose g1 g2 g3):=h.has1 hG fun c _=>by
  obtain⟨c⟩:=c
  have e:chooseD g1 g2 g3 c=if c=64 then .fn (.func g1) [] [] else if c=32∨c=45∨c=43 then .fn (.func g2) [] [] else if c=92 then .fn (.func g3) [] [] else .nilfn:=rfl
  simp[x_strict_choose]
  refine vc_lp (σ:=Nat) (fun i=>i≤5∧(0<i→c≠64)∧(1<i→c≠32)∧(2<i→c≠45)∧(3<i→c≠43)∧(4<i→c≠92)) (fun i=>5-i) (fun i=>[.d (.int .u8 c),.any,.any,.d (.sl 2 (chL g1 g2 g3)),.d (.int .i64 5),.d (.int .i64 i),.any,.any]) (fun _=>[]) 0 (by simp[chL]) (by simp) (by simp) ?_
  rintro i ⟨i1,i2,i3,i4,i5,i6⟩
  have:i=0∨i=1∨i=2∨i=3∨i=4∨i=5:=by omega
  rcases this with rfl | rfl | rfl | rfl | rfl | rfl
  · by_cases d:c=64
    · subst d;simp[chL,chooseD]
    · simp[chL,show ¬(64:Int)=c by omega]
      exact Nxt.mk 1 (by omega) (by simp[chL];decide) (by simp) ⟨by omega,by omega,by omega,by omega,by omega,by omega⟩
  · by_cases d:c=32
    · subst d;simp[chL,chooseD]
    · simp[chL,show ¬(32:Int)=c by omega]
      exact Nxt.mk 2 (by omega) (by simp[chL];decide) (by simp) ⟨by omega,by omega,by omega,by omega,by omega,by omega⟩
  · by_cases d:c=45
    · subst d;simp[chL,chooseD]
    · simp[chL,show ¬(45:Int)=c by omega]
      exact Nxt.mk 3 (by omega) (by simp[chL];decide) (by simp) ⟨by omega,by omega,by omega,by omega,by omega,by omega⟩
  · by_cases d:c=43
    · subst d;simp[chL,chooseD]
    · simp[chL,show ¬(43:Int)=c by omega]
      exact Nxt.mk 4 (by omega) (by simp[chL];decide) (by simp) ⟨by omega,by omega,by omega,by omega,by omega,by omega⟩
  · by_cases d:c=92
    · subst d;simp[chL,chooseD]
    · simp[chL,show ¬(92:Int)=c by omega]
      exact Nxt.mk 5 (by omega) (by simp[chL];decide) (by simp) ⟨by omega,by omega,by omega,by omega,by omega,by omega⟩
  · rw[e,if_neg (by omega),if_neg (by omega),if_neg (by omega)]
    simp[chL]
theorem WkE.app {n:Nat} {k:List Ob} {e:Nat} {xs ys us vs:List A} (h1:WkE n k e xs ys) (h2:WkE n k e us vs):WkE n k e (xs++us) (ys++vs):=by
  obtain⟨a1,a2⟩:=h1
  obtain⟨b1,b2⟩:=h2
  refine⟨by simp[a1,b1],fun i hi=>?_⟩
  by_cases c:i<xs.length
  · have:=a2 i c
    rw[show (xs++us).getD i .any=xs.getD i .any by simp[List.getD,List.getElem?_append,c],show (ys++vs).getD i .any=ys.getD i .any by simp[List.getD,List.getElem?_append,show i<ys.length by omega]]
    exact this
  · have:=b2 (i-xs.length) (by simp at hi;omega)
    rw[show (xs++us).getD i .any=us.getD (i-xs.length) .any by simp[List.getD,List.getElem?_append,c],show (ys++vs).getD i .any=vs.getD (i-xs.length) .any by simp[List.getD,List.getElem?_append,show ¬i<ys.length by omega,a1]]
    exact this
theorem idxIn4:idxIn [0,1,2,4] 0=0∧idxIn [0,1,2,4] 1=1∧idxIn [0,1,2,4] 2=2∧idxIn [0,1,2,4] 4=3:=by decide
def FzE (l ver esz:Nat) (zs:List A) (e:Nat) (xs ys:List A):Prop:=xs.length=ys.length∧∀i,i<xs.length→((ys.getD i .any).fits e=true∧FzL l ver esz zs (xs.getD i .any).cells (ys.getD i .any).cells)
theorem FzE.app {l ver esz:Nat} {zs:List A} {e:Nat} {xs ys us vs:List A} (h1:FzE l ver esz zs e xs ys) (h2:FzE l ver esz zs e us vs):FzE l ver esz zs e (xs++us) (ys++vs):=by
  obtain⟨a1,a2⟩:=h1
  obtain⟨b1,b2⟩:=h2
  refine⟨by simp[a1,b1],fun i hi=>?_⟩
  by_cases c:i<xs.length
  · have:=a2 i c
    rw[show (xs++us).getD i .any=xs.getD i .any by simp[List.getD,List.getElem?_append,c],show (ys++vs).getD i .any=ys.getD i .any by simp[List.getD,List.getElem?_append,show i<ys.length by omega]]
    exact this
  · have:=b2 (i-xs.length) (by simp at hi;omega)
    rw[show (xs++us).getD i .any=us.getD (i-xs.length) .any by simp[List.getD,List.getElem?_append,c],show (ys++vs).getD i .any=vs.getD (i-xs.length) .any by simp[List.getD,List.getElem?_append,show ¬i<ys.length by omega,a1]]
    exact this
theorem FzE.refl {l ver esz:Nat} {zs:List A} {e:Nat} {xs:List A} (h:∀x,x∈xs→x.fits e=true):FzE l ver esz zs e xs xs :=
  ⟨rfl,fun i hi=>⟨h _ (by simp[List.getD,hi]),FzL.refl _ _ _ _ _⟩⟩
theorem FzE.one {l ver esz:Nat} {zs:List A} {e:Nat} {x y:A} (h1:y.fits e=true) (h2:FzL l ver esz zs x.cells y.cells):FzE l ver esz zs e [x] [y] :=
  ⟨rfl,fun i hi=>by
    obtain rfl:i=0:=by simp at hi;omega
    exact⟨h1,h2⟩⟩
theorem FzE.ob {l ver esz v:Nat} {zs:List A} {e:Nat} {xs ys:List A} (h:FzE l ver esz zs e xs ys):FzO l ver esz zs (.cells v e xs) (.cells v e ys):=.inr ⟨v,e,xs,ys,rfl,rfl,h.1,h.2⟩
def hkA (h:PHunkT):A:=.agg [.d (.int .i64 h.old),.d (.int .i64 h.new),.d (.sl 2 (h.lines.map Rep.to))]
theorem hkD_fits (l:List PHunkT):∀x,x∈l.map hkD→x.fits 3=true:=by
  intro x hx
  obtain⟨h,_,rfl⟩:=List.mem_map.1 hx
  rfl
theorem ln_toD (l:List PLineT):((((lnC l).drop 0).take l.length).map A.toD)=l.map Rep.to:=by
  rw[List.drop_zero,List.take_of_length_le (by simp[lnC])]
  unfold lnC
  rw[List.map_map]
  rfl
theorem ln_isD (l:List PLineT):(((lnC l).drop 0).take l.length).all A.isD=true:=by
  rw[List.drop_zero,List.take_of_length_le (by simp[lnC])]
  simp[lnC,lnD,A.isD]
theorem hk_freeze (L ver:Nat) (done:List PHunkT) (h:PHunkT):FzE L h.lines.length 2 (lnC h.lines) 3 (hkC L done h.old h.new h.lines.length) (done.map hkD++[hkA h]):=by
  unfold hkC
  refine FzE.app (FzE.refl (hkD_fits done)) (FzE.one rfl ⟨Fz.refl _ _ _ _ _,Fz.refl _ _ _ _ _,?_,trivial⟩)
  have:=Fz.own L h.lines.length 2 0 h.lines.length (lnC h.lines) (ln_isD h.lines)
  rw[ln_toD] at this
  exact this
theorem hks_toD (l:List PHunkT) (h:PHunkT):(l.map hkD++[hkA h]).map A.toD=(l++[h]).map Rep.to:=by
  simp only[List.map_append,List.map_map,List.map_cons,List.map_nil]
  rfl
theorem hks_isD (l:List PHunkT) (h:PHunkT):(l.map hkD++[hkA h]).all A.isD=true:=by
  simp[hkD,hkA,A.isD,A.allD]
theorem endLast_set:∀l:List PLineT,l≠[]→endLast l=l.set (l.length-1) ⟨(l.getD (l.length-1) default).kind,Lib.trimSuffix (l.getD (l.length-1) default).text [10]⟩
  | [],h=>absurd rfl h
  | [x],_=>rfl
  | x::y::r,_=>by
    have ih:=endLast_set (y::r) (by simp)
    simp only[endLast,ih]
    simp
theorem ln_set (l:List PLineT) (k:Nat) (x:PLineT):lnC (l.set k x)=(lnC l).set k (lnD x):=by simp[lnC]
theorem lnC_fits (l:List PLineT):∀x,x∈lnC l→x.fits 2=true:=by
  intro x hx
  obtain⟨h,_,rfl⟩:=List.mem_map.1 hx
  rfl
theorem wk_last (n v:Nat) (k:List Ob) (l:List PLineT) (h:l≠[]):WkO n k (.cells v 2 ((lnC l).set (l.length-1) (.agg [.d (.int .u8 (l.getD (l.length-1) default).kind),.d (.str (Lib.trimSuffix (l.getD (l.length-1) default).text [10]))]))) (.cells v 2 (lnC (endLast l))):=by
  rw[endLast_set l h,ln_set]
  exact .cells (WkE.setset (lnC_fits l) rfl ⟨Wk.refl _ _ _,Wk.refl _ _ _,trivial⟩)
def parseD (l:List Str):D:=match parseV l with
  | none=>.tup [Rep.to (⟨[],[],[]⟩:PatchT),.bool false]
  | some p=>.tup [Rep.to p,.bool true]
theorem nameV_len (l p:Str):(nameV l p).1.length≤l.length:=by
  unfold nameV
  split
  · split
    · simp
    · rename_i x hx
      simp only
      unfold unqV at hx
      split at hx
      · cases hx
      · split at hx
        · cases hx
          have:=(wordV_rng (s:=l.drop p.length) (i:=(0:Int).toNat) (by simp)).2.2
          simp at this ⊢
          omega
        · cases hx
  · simp
structure PrX where
  i:Nat
  x:PsT
def prI (R:List Str) (x0:PsT) (y:PrX):Prop:=y.i≤R.length∧foldP y.x (R.drop y.i)=foldP x0 R∧PsOk y.x (131 * y.i+flen (R.take y.i))
def resO:Ob:=.cells 0 3 [.d (.agg [.str [],.str [],.nilsl])]
@[simp] def S_strict_parse:List D→Prop × D:=spec1 (α:=List Str) (fun l=>flen l≤1048576∧l.length≤1048577) (fun l=>parseD l)
theorem ct_strict_parse {P:Program} {f g1 g2 g3 g4 g5:Nat} {G:Gam} (h:CodeOf P f 1 16 [32001,2] (x_strict_parse g1 g2)) (hG:GamOk P G) (h1:G.find g1=some S_strict_name) (h2:G.find g2=some (S_strict_choose g3 g4 g5)) (h3:G.findR g3=some R_strict_parser_header) (h4:G.findR g4=some R_strict_parser_content) (h5:G.findR g5=some R_strict_parser_unended):Has P f S_strict_parse:=h.has1 hG fun l hp=>by
  obtain⟨p1,p2⟩:=hp
  by_cases c:l.length<2
  · have e:parseD l=.tup [Rep.to (⟨[],[],[]⟩:PatchT),.bool false]:=by unfold parseD parseV;rw[if_pos c]
    rw[e]
    simp[x_strict_parse,show (l.length:Int)<2 by omega]
  · have hl0:0<l.length:=by omega
    have hl1:1<l.length:=by omega
    have b0:=mem_flat_le hl0
    have b1:=mem_flat_le hl1
    have bf:l.flatten.length=flen l:=rfl
    have n0:=nameV_len l[0] [45,45,45,32]
    have n1:=nameV_len l[1] [43,43,43,32]
    have ep:parseV l=if (nameV l[0] [45,45,45,32]).2=true∧(nameV l[1] [43,43,43,32]).2=true then
      (match foldP ⟨(nameV l[0] [45,45,45,32]).1,(nameV l[1] [43,43,43,32]).1,[],none⟩ (l.drop 2) with
      | none=>none
      | some x=>some ⟨x.old,x.new,x.hunks⟩) else none:=by
      unfold parseV
      rw[if_neg c,show l.getD 0 []=l[0] by simp[List.getD,hl0],show l.getD 1 []=l[1] by simp[List.getD,hl1]] <;> rfl
    have q0:l[0].length≤1048576:=by omega
    have q1:l[1].length≤1048576:=by omega
    cases ca:(nameV l[0] [45,45,45,32]).2 with
    | false =>
      have e:parseD l=.tup [Rep.to (⟨[],[],[]⟩:PatchT),.bool false]:=by unfold parseD;rw[ep,if_neg (by rw[ca];simp)]
      rw[e]
      simp[x_strict_parse,show ¬(l.length:Int)<2 by omega,show (1:Int)<l.length by omega,show (2:Int)≤l.length by omega,hl0,hl1,h1,q0,q1,ca]
    | true =>
      cases cb:(nameV l[1] [43,43,43,32]).2 with
      | false =>
        have e:parseD l=.tup [Rep.to (⟨[],[],[]⟩:PatchT),.bool false]:=by unfold parseD;rw[ep,if_neg (by rw[cb];simp)]
        rw[e]
        simp[x_strict_parse,show ¬(l.length:Int)<2 by omega,show (1:Int)<l.length by omega,show (2:Int)≤l.length by omega,hl0,hl1,h1,q0,q1,ca,cb]
      | true =>
        rw[if_pos ⟨ca,cb⟩] at ep
        have hfr:flen (l.drop 2)≤1048576:=by have:=flen_take l 2;omega
        have hlr:(l.drop 2).length=l.length-2:=by simp
        have hd2:List.take (l.length-2) (l.drop 2)=l.drop 2:=List.take_of_length_le (by simp)
        simp[x_strict_parse,show ¬(l.length:Int)<2 by omega,show (1:Int)<l.length by omega,show (2:Int)≤l.length by omega,hl0,hl1,h1,q0,q1,ca,cb,show 2≤l.length by omega,hd2]
        generalize (nameV l[0] [45,45,45,32]).1=old at *
        generalize (nameV l[1] [43,43,43,32]).1=new at *
        have hR:List.take (l.length-2) (List.drop 2 (l.map Rep.to))=(l.drop 2).map Rep.to:=by rw[← List.map_drop];exact List.take_of_length_le (by simp)
        rw[hR,show l.length-2=(l.drop 2).length by simp]
        have epd:parseD l=match foldP ⟨old,new,[],none⟩ (l.drop 2) with
          | none=>.tup [Rep.to (⟨[],[],[]⟩:PatchT),.bool false]
          | some x=>.tup [Rep.to (⟨x.old,x.new,x.hunks⟩:PatchT),.bool true]:=by
          unfold parseD
          rw[ep]
          cases foldP ⟨old,new,[],none⟩ (l.drop 2) <;> rfl
        generalize l.drop 2=R at *
        rw[epd]
        have hx0:PsOk ⟨old,new,[],none⟩ (131 * 0+flen (R.take 0)):=⟨by simp[PsT.M,PsT.hunks,hunksM],fun _=>rfl,by simp[PsT.hunks],by simp only;omega,by simp only;omega⟩
        generalize hxx:(⟨old,new,[],none⟩:PsT)=x0 at *
        refine vc_lpR (σ:=PrX) (prI R x0) (fun y=>R.length-y.i)
          (fun y=>[.any,.ref 0 0 0 0,.any,.ref 1 0 0 0,.any,.any,.any,.any,.any,.any,.d (.sl 1 (R.map Rep.to)),.d (.int .i64 R.length),.d (.int .i64 y.i),.any,.any,.any])
          (fun y=>resO::psB 1 y.x) ⟨0,x0⟩ ?_ ⟨by simp,by simp,hx0⟩ ?_
        · subst hxx
          refine Re.wn (s':=[resO,psP 2 ⟨old,new,[],none⟩ 0]) [false,true,false,true,false,false,false,false,false,false,true,true,true] [.cells 0 3 []] (by simp) (by simp) ?_ ?_ (by simp[psB])
          · simp
          · refine⟨.inl rfl,.cellsL ?_,trivial⟩
            simp
            exact Wk.freshO _ _ _ 0 rfl
        clear hx0 hxx
        rintro⟨i,x⟩ ⟨i1,i2,i3⟩
        simp only at i1 i2 i3
        by_cases hi:i<R.length
        · have w1:IntKind.i64.wrap ((i:Int)+1)=(i:Int)+1:=wrap_in (by omega) (by omega)
          rw[List.drop_eq_getElem_cons hi,foldP] at i2
          have hfs:=flen_succ hi
          have hft:=flen_take R (i+1)
          have hll:R[i].length≤1048576:=by omega
          have bad:stepV2 x R[i]=none→foldP x0 R=none:=fun e=>by rw[← i2,e]
          have good:∀y,stepV2 x R[i]=some y→prI R x0 ⟨i+1,y⟩:=fun y e=>by
            refine⟨hi,by rw[← i2,e],?_⟩
            have:=i3.step e hll (by omega)
            rw[show 131 * i+flen (R.take i)+131+R[i].length=131 * (i+1)+flen (R.take (i+1)) by omega] at this
            exact this
          clear i2
          have hdl:x.done.length≤1000000000:=by
            have h1:=i3.m
            have h2:=hunks_leM x.hunks
            simp only[PsT.M,PsT.hunks,List.length_append] at h1 h2
            omega
          by_cases c0:R[i]=[]
          · have e:=bad (by unfold stepV2;rw[if_pos c0])
            rw[e]
            simp[hi,c0,resO]
          · have hpos:0<R[i].length:=List.length_pos_iff.2 c0
            have hg0:R[i].getD 0 0=(R[i])[0]:=by simp[List.getD,hpos]
            have hst:stepV2 x R[i]=if (R[i])[0]=64 then (match headS R[i] with
                | none=>none
                | some y=>some ⟨x.old,x.new,x.done++x.cur.toList,some ⟨y.1,y.2,[]⟩⟩) else
              if (R[i])[0]=32∨(R[i])[0]=45∨(R[i])[0]=43 then (if (contV x R[i]).2=true then some (contV x R[i]).1 else none) else
                if (R[i])[0]=92 then (if (unenV x R[i]).2=true then some (unenV x R[i]).1 else none) else none:=by
              unfold stepV2
              rw[if_neg c0,hg0] <;> rfl
            have u8b:∀a b:UInt8,a≠b→¬(a.toNat:Int)=(b.toNat:Int):=fun a b hne e=>hne (UInt8.toNat_inj.1 (by omega))
            have i4:=i3.none
            have i5:=i3.oks
            obtain⟨old',new',done,cur⟩:=x
            simp only at hdl i4
            by_cases c1:(R[i])[0]=64
            · rw[if_pos c1] at hst
              cases hs:headS R[i] with
              | none =>
                rw[hs] at hst
                rw[bad hst]
                cases cur with
                | none =>
                  have hdn:=i4 rfl
                  subst hdn
                  have hv:=psV_psS (x:=⟨old',new',[],none⟩) (fun _=>rfl)
                  simp only[psB,psP] at hv
                  simp[hi,c0,hpos,hll,h2,c1,chooseD,psB,psP,resO,eCallv,eRCall,h3,hv,hs]
                | some hk =>
                  have hv:=psV_psS (x:=⟨old',new',done,some hk⟩) (fun h=>by cases h)
                  simp only[psB,psP] at hv
                  simp[hi,c0,hpos,hll,h2,c1,chooseD,psB,psP,resO,eCallv,eRCall,h3,hv,hs,hdl]
              | some ab =>
                rw[hs] at hst
                have hg:=good _ hst
                have hab:∀(a b:Int),ab=(a,b)→True:=fun _ _ _=>trivial
                obtain⟨a,b⟩:=ab
                simp only at hg
                cases cur with
                | none =>
                  have hdn:=i4 rfl
                  subst hdn
                  have hv:=psV_psS (x:=⟨old',new',[],none⟩) (fun _=>rfl)
                  simp only[psB,psP] at hv
                  simp[hi,c0,hpos,hll,h2,c1,chooseD,psB,psP,resO,eCallv,eRCall,h3,hv,hs,psH,newE,w1]
                  refine Nxt.re ⟨i+1,⟨old',new',[],some ⟨a,b,[]⟩⟩⟩ (by simp only;omega) ?_ (by simpa using hg)
                  refine Re.wn (s':=[resO,psP 2 ⟨old',new',[],none⟩ 1,.cells 1 3 [.agg [.d (.int .i64 a),.d (.int .i64 b),.own 3 0 0 0]]]) [false,true,false,true,false,false,false,false,false,false,true,true,true] [.cells 0 2 []] (by simp) (by simp) ?_ ?_ (by simp[psB,psP,hkC,lnC,resO])
                  · simp
                  · refine⟨.inl rfl,.inl rfl,.cellsL ?_,trivial⟩
                    simp
                    exact Wk.freshO _ _ _ 0 rfl
                | some hk =>
                  have hv:=psV_psS (x:=⟨old',new',done,some hk⟩) (fun h=>by cases h)
                  simp only[psB,psP] at hv
                  simp[hi,c0,hpos,hll,h2,c1,chooseD,psB,psP,resO,eCallv,eRCall,h3,hv,hs,psH,newE,w1,hdl]
                  refine Nxt.re ⟨i+1,⟨old',new',done++[hk],some ⟨a,b,[]⟩⟩⟩ (by simp only;omega) ?_ (by simpa using hg)
                  have r1:Re 0 [A.any,A.ref 0 0 0 0,A.any,A.ref 1 0 0 0,A.any,A.any,A.d (D.str R[i]),A.d (D.fn (Fn.func g3) [] []),A.any,A.any,A.d (D.sl 1 (List.map Rep.to R)),A.d (D.int IntKind.i64 ↑R.length),A.d (D.int IntKind.i64 (↑i+1)),A.d (D.bool true),A.d (D.bool false),A.d (D.bool false)]
                      [resO,psP 2 ⟨old',new',done,some hk⟩ (done.length+1+1),.cells (done.length+1+1) 3 (hkC 3 done hk.old hk.new hk.lines.length++[newE a b]),.cells hk.lines.length 2 (lnC hk.lines)]
                      [A.any,A.ref 0 0 0 0,A.any,A.ref 1 0 0 0,A.any,A.any,A.any,A.any,A.any,A.any,A.d (D.sl 1 (List.map Rep.to R)),A.d (D.int IntKind.i64 ↑R.length),A.d (D.int IntKind.i64 (↑i+1)),A.any,A.any,A.any]
                      [resO,psP 2 ⟨old',new',done,some hk⟩ (done.length+1+1),.cells (done.length+1+1) 3 (done.map hkD++[hkA hk]++[newE a b]),.dead]:=by
                    refine Re.freeze 3 hk.lines.length 2 (lnC hk.lines) rfl (by simp) ⟨rfl,?_⟩ rfl
                    intro k hkk hk2
                    have:k=0∨k=1∨k=2:=by simp at hkk;omega
                    rcases this with rfl | rfl | rfl
                    · exact .inl rfl
                    · exact .inl rfl
                    · exact FzE.ob (FzE.app (hk_freeze 3 0 done hk) (FzE.refl (fun x hx=>by simp at hx;subst hx;rfl)))
                  have r2:Re 0 [A.any,A.ref 0 0 0 0,A.any,A.ref 1 0 0 0,A.any,A.any,A.any,A.any,A.any,A.any,A.d (D.sl 1 (List.map Rep.to R)),A.d (D.int IntKind.i64 ↑R.length),A.d (D.int IntKind.i64 (↑i+1)),A.any,A.any,A.any]
                      [resO,psP 2 ⟨old',new',done,some hk⟩ (done.length+1+1),.cells (done.length+1+1) 3 (done.map hkD++[hkA hk]++[newE a b]),.dead]
                      [A.any,A.ref 0 0 0 0,A.any,A.ref 1 0 0 0,A.any,A.any,A.any,A.any,A.any,A.any,A.d (D.sl 1 (List.map Rep.to R)),A.d (D.int IntKind.i64 ↑R.length),A.d (D.int IntKind.i64 (↑i+1)),A.any,A.any,A.any]
                      [resO,psP 2 ⟨old',new',done,some hk⟩ (done.length+1+1),.cells (done.length+1+1) 3 (hkC 4 (done++[hk]) a b 0),.dead,.cells 0 2 []]:=by
                    refine Re.weak (k:=[.cells 0 2 []]) (s':=[resO,psP 2 ⟨old',new',done,some hk⟩ (done.length+1+1),.cells (done.length+1+1) 3 (hkC 4 (done++[hk]) a b 0),.dead]) (by simp) (by simp) (WkL.refl _ _ _) ⟨.inl rfl,.inl rfl,.cells ?_,.inl rfl,trivial⟩
                    unfold hkC
                    rw[List.map_append]
                    refine WkE.app (WkE.app (WkE.refl (hkD_fits done)) (WkEL.toE ⟨⟨rfl,?_⟩,trivial⟩)) (WkEL.toE ⟨⟨rfl,?_⟩,trivial⟩)
                    · exact⟨Wk.refl _ _ _,Wk.refl _ _ _,Wk.refl _ _ _,trivial⟩
                    · exact⟨Wk.refl _ _ _,Wk.refl _ _ _,Wk.freshO _ _ _ 0 rfl,trivial⟩
                  have r3:=Re.pick (lo:=0) (T:=[A.any,A.ref 0 0 0 0,A.any,A.ref 1 0 0 0,A.any,A.any,A.any,A.any,A.any,A.any,A.d (D.sl 1 (List.map Rep.to R)),A.d (D.int IntKind.i64 ↑R.length),A.d (D.int IntKind.i64 (↑i+1)),A.any,A.any,A.any])
                    (s:=[resO,psP 2 ⟨old',new',done,some hk⟩ (done.length+1+1),.cells (done.length+1+1) 3 (hkC 4 (done++[hk]) a b 0),.dead,.cells 0 2 []]) [0,1,2,4] ⟨by simp,by simp,by simp[pickS,resO,psP,idxIn4]⟩ (by simp) (by intro k hk;omega) (by simp[idxIn4])
                  have r4:=Re.trans r1 (Re.trans r2 r3)
                  simp only[resO,psP,newE] at r4
                  simp[pickS,idxIn4,psP,resO] at r4
                  simpa [psB,psP,lnC,resO] using r4
            · rw[if_neg c1] at hst
              have d1:=u8b _ _ c1
              simp at d1
              by_cases c2:(R[i])[0]=32∨(R[i])[0]=45∨(R[i])[0]=43
              · rw[if_pos c2] at hst
                have hch:chooseD g3 g4 g5 ((R[i])[0].toNat:Int)=.fn (.func g4) [] []:=by
                  unfold chooseD
                  rw[if_neg d1,if_pos (by rcases c2 with c2 | c2 | c2 <;> simp[c2])]
                cases cur with
                | none =>
                  have hdn:=i4 rfl
                  subst hdn
                  have hv:=psV_psS (x:=⟨old',new',[],none⟩) (fun _=>rfl)
                  simp only[psB,psP] at hv
                  rw[bad (by rw[hst];rfl)]
                  simp[hi,c0,hpos,hll,h2,hch,psB,psP,resO,eCallv,eRCall,h4,hv,contV]
                | some hk =>
                  have hv:=psV_psS (x:=⟨old',new',done,some hk⟩) (fun h=>by cases h)
                  simp only[psB,psP] at hv
                  have hcv:contV ⟨old',new',done,some hk⟩ R[i]=(⟨old',new',done,some ⟨hk.old,hk.new,hk.lines++[⟨((R[i])[0].toNat:Nat),R[i].tail++[10]⟩]⟩⟩,true):=by
                    simp only[contV,hg0,List.drop_one]
                  have hg:=good _ (by rw[hst,hcv];rfl)
                  have hko:hk.lines.length≤1000000000:=(i5 hk (by simp[PsT.hunks])).1
                  simp[hi,c0,hpos,hll,h2,hch,psB,psP,resO,eCallv,eRCall,h4,hv,hcv,w1,hdl,hko]
                  exact Nxt.mk (⟨i+1,⟨old',new',done,some ⟨hk.old,hk.new,hk.lines++[⟨((R[i])[0].toNat:Nat),R[i].tail++[10]⟩]⟩⟩⟩:PrX) (by simp only;omega) (by simp) (by simp) hg
              · rw[if_neg c2] at hst
                by_cases c3:(R[i])[0]=92
                · rw[if_pos c3] at hst
                  have hch:chooseD g3 g4 g5 ((R[i])[0].toNat:Int)=.fn (.func g5) [] []:=by rw[c3];rfl
                  cases cur with
                  | none =>
                    have hdn:=i4 rfl
                    subst hdn
                    have hv:=psV_psS (x:=⟨old',new',[],none⟩) (fun _=>rfl)
                    simp only[psB,psP] at hv
                    rw[bad (by rw[hst];rfl)]
                    simp[hi,c0,hpos,hll,h2,hch,psB,psP,resO,eCallv,eRCall,h5,hv,unenV]
                  | some hk =>
                    have hv:=psV_psS (x:=⟨old',new',done,some hk⟩) (fun h=>by cases h)
                    simp only[psB,psP] at hv
                    have hko:=i5 hk (by simp[PsT.hunks])
                    have hkt:TxtOk hk.lines:=fun x hx=>(hko.2 x hx).1
                    by_cases c4:hk.lines=[]∨R[i]≠unendL
                    · have hu:unenV ⟨old',new',done,some hk⟩ R[i]=(⟨old',new',done,some hk⟩,false):=by unfold unenV;simp only;rw[if_pos c4]
                      rw[bad (by rw[hst,hu];rfl)]
                      simp[hi,c0,hpos,hll,h2,hch,psB,psP,resO,eCallv,eRCall,h5,hv,hu,hdl,hko.1,hkt,show (hk.lines=[]∨¬R[i]=unendL) from c4]
                    · have hu:unenV ⟨old',new',done,some hk⟩ R[i]=(⟨old',new',done,some ⟨hk.old,hk.new,endLast hk.lines⟩⟩,true):=by unfold unenV;simp only;rw[if_neg c4]
                      have hg:=good _ (by rw[hst,hu];rfl)
                      have c4f:(hk.lines=[]∨¬R[i]=unendL)=False:=eq_false c4
                      rw[not_or,Decidable.not_not] at c4
                      have hwk:=wk_last 4 hk.lines.length [] hk.lines c4.1
                      have hel:=(endLast_spec hk.lines).2.1
                      simp[hi,c0,hpos,hll,h2,hch,psB,psP,resO,eCallv,eRCall,h5,hv,hu,hdl,hko.1,hkt,c4f,w1]
                      have hund:=lnset_under hk.lines (hk.lines.length-1) (hk.lines[hk.lines.length-1]?.getD default).kind (Lib.trimSuffix (hk.lines[hk.lines.length-1]?.getD default).text [10]) 3
                      rw[List.all_eq_true] at hund
                      refine⟨hund,Nxt.re ⟨i+1,⟨old',new',done,some ⟨hk.old,hk.new,endLast hk.lines⟩⟩⟩ (by simp only;omega) ?_ hg⟩
                      simp only[hel]
                      refine Re.wn (s':=[resO,psP 2 ⟨old',new',done,some hk⟩ (done.length+1),.cells (done.length+1) 3 (hkC 3 done hk.old hk.new hk.lines.length),.cells hk.lines.length 2 (lnC (endLast hk.lines))]) [false,true,false,true,false,false,false,false,false,false,true,true,true] [] (by simp) (by simp) ?_ ?_ (by simp[psP,resO])
                      · simp
                      · exact⟨.inl rfl,.inl rfl,.inl rfl,hwk,trivial⟩
                · rw[if_neg c3] at hst
                  have d2:¬(R[i])[0]=32:=fun e=>c2 (.inl e)
                  have d3:¬(R[i])[0]=45:=fun e=>c2 (.inr (.inl e))
                  have d4:¬(R[i])[0]=43:=fun e=>c2 (.inr (.inr e))
                  have e2:=u8b _ _ d2
                  have e3:=u8b _ _ d3
                  have e4:=u8b _ _ d4
                  have e5:=u8b _ _ c3
                  simp at e2 e3 e4 e5
                  have hch:chooseD g3 g4 g5 ((R[i])[0].toNat:Int)=.nilfn:=by
                    unfold chooseD
                    rw[if_neg d1,if_neg (by rintro (h | h | h);exact e2 h;exact e3 h;exact e4 h),if_neg e5]
                  rw[bad hst]
                  simp[hi,c0,hpos,h2,hch,resO]
        · rw[List.drop_of_length_le (by omega),foldP] at i2
          rw[← i2]
          simp[hi]
          obtain⟨old',new',done,cur⟩:=x
          cases cur with
          | none =>
            have hdn:=i3.none rfl
            simp only at hdn
            subst hdn
            refine Hint.of (T':=[.any,.ref 0 0 0 0,.any,.ref 1 0 0 0,.any,.any,.any,.any,.any,.any,.any,.any,.any,.any,.any,.any]) (s':=[resO,.cells 0 3 [.agg [.d (.str old'),.d (.str new'),.d (.sl 3 [])]],.dead]) (Re.freeze 2 0 3 [] rfl (by simp) ⟨rfl,?_⟩ rfl) ?_
            · intro k hk hk2
              have:k=0∨k=1:=by simp[psB] at hk;omega
              rcases this with rfl | rfl
              · exact .inl rfl
              · exact FzE.ob (FzE.one rfl ⟨Fz.refl _ _ _ _ _,Fz.refl _ _ _ _ _,Fz.own 2 0 3 0 0 [] rfl,trivial⟩)
            · simp[resO,PsT.hunks]
          | some hk =>
            have hl2:(hkC 3 done hk.old hk.new hk.lines.length).length=done.length+1:=hkC_len _ _ _ _ _
            refine Hint.of (T':=[.any,.ref 0 0 0 0,.any,.ref 1 0 0 0,.any,.any,.any,.any,.any,.any,.any,.any,.any,.any,.any,.any]) (s':=[resO,.cells 0 3 [.agg [.d (.str old'),.d (.str new'),.d (.sl 3 ((done++[hk]).map Rep.to))]],.dead,.dead])
              (Re.trans (T':=[.any,.ref 0 0 0 0,.any,.ref 1 0 0 0,.any,.any,.any,.any,.any,.any,.any,.any,.any,.any,.any,.any]) (s':=[resO,psP 2 ⟨old',new',done,some hk⟩ (done.length+1),.cells (done.length+1) 3 (done.map hkD++[hkA hk]),.dead])
                (Re.freeze 3 hk.lines.length 2 (lnC hk.lines) rfl (by simp) ⟨rfl,?_⟩ rfl) (Re.freeze 2 (done.length+1) 3 (done.map hkD++[hkA hk]) rfl (by simp) ⟨rfl,?_⟩ rfl)) ?_
            · intro k hkk hk2
              have:k=0∨k=1∨k=2:=by simp[psB] at hkk;omega
              rcases this with rfl | rfl | rfl
              · exact .inl rfl
              · exact .inl rfl
              · exact FzE.ob (hk_freeze 3 0 done hk)
            · intro k hkk hk2
              have:k=0∨k=1∨k=3:=by simp at hkk;omega
              rcases this with rfl | rfl | rfl
              · exact .inl rfl
              · refine FzE.ob (FzE.one rfl ⟨Fz.refl _ _ _ _ _,Fz.refl _ _ _ _ _,?_,trivial⟩)
                have hle:(done.map hkD++[hkA hk]).length=done.length+1:=by simp
                have:=Fz.own 2 (done.length+1) 3 0 (done.length+1) (done.map hkD++[hkA hk]) (by rw[List.drop_zero,List.take_of_length_le (by omega)];exact hks_isD done hk)
                rw[List.drop_zero,List.take_of_length_le (by omega),hks_toD] at this
                exact this
              · exact .inl rfl
            · simp[resO,PsT.hunks]
def splitC (c:UInt8) (cur:Str):Str→List Str
  | []=>[cur]
  | x::s=>if x=c then cur::splitC c [] s else splitC c (cur++[x]) s
theorem occC (c:UInt8) (s:Str) (j:Nat):Lib.occAt s [c] j=true↔s[j]?=some c:=by
  unfold Lib.occAt
  rw[List.isPrefixOf_iff_prefix]
  constructor
  · rintro⟨t,ht⟩
    have:(s.drop j)[0]?=some c:=by rw[← ht];rfl
    simpa using this
  · intro h
    obtain⟨h1,h2⟩:=List.getElem?_eq_some_iff.1 h
    exact⟨s.drop (j+1),by rw[List.drop_eq_getElem_cons h1,h2];rfl⟩
theorem splitC_none (c:UInt8):∀(s cur:Str),(∀j:Nat,s[j]?≠some c)→splitC c cur s=[cur++s]
  | [],cur,_=>by simp[splitC]
  | x::s,cur,h=>by
    have h0:x≠c:=fun e=>h 0 (by simp[e])
    simp only[splitC,if_neg h0]
    rw[splitC_none c s (cur++[x]) fun j=>h (j+1)]
    simp
theorem splitC_some (c:UInt8):∀(s cur:Str) (i:Nat),s[i]?=some c→(∀j:Nat,j<i→s[j]?≠some c)→splitC c cur s=(cur++s.take i)::splitC c [] (s.drop (i+1))
  | [],_,i,h,_=>by simp at h
  | x::s,cur,0,h,_=>by
    simp at h
    simp[splitC,h]
  | x::s,cur,i+1,h,h2=>by
    have h0:x≠c:=fun e=>h2 0 (by omega) (by simp[e])
    simp only[splitC,if_neg h0]
    rw[splitC_some c s (cur++[x]) i (by simpa using h) fun j hj=>h2 (j+1) (by omega)]
    simp
theorem firstC (c:UInt8) (s:Str):(∀j:Nat,s[j]?≠some c)∨∃i,s[i]?=some c∧∀j:Nat,j<i→s[j]?≠some c:=by
  induction s with
  | nil=>exact .inl (by simp)
  | cons x s ih =>
    by_cases h:x=c
    · exact .inr ⟨0,by simp[h],by omega⟩
    · rcases ih with ih | ⟨i,h1,h2⟩
      · refine .inl fun j=>?_
        cases j with
        | zero=>simpa using h
        | succ j=>simpa using ih j
      · refine .inr ⟨i+1,by simpa using h1,fun j hj=>?_⟩
        cases j with
        | zero=>simpa using h
        | succ j=>simpa using h2 j (by omega)
theorem splitK_C (c:UInt8):∀(k:Nat) (s:Str),Lib.count s [c]=k→Lib.splitK [c] 0 k s=splitC c [] s:=by
  intro k
  induction k with
  | zero =>
    intro s hk
    rcases firstC c s with h | ⟨i,h1,h2⟩
    · rw[splitC_none c s [] h];rfl
    · have hi:Lib.index s [c]=i:=Lib.index_first (by have:=List.getElem?_eq_some_iff.1 h1;obtain⟨h3,_⟩:=this;omega) ((occC c s i).2 h1) fun j hj=>by
        have:=h2 j hj
        cases h3:Lib.occAt s [c] j with
        | false=>rfl
        | true=>exact absurd ((occC c s j).1 h3) this
      have:=Lib.count_hit (by simp) hi
      omega
  | succ k ih =>
    intro s hk
    rcases firstC c s with h | ⟨i,h1,h2⟩
    · have hi:Lib.index s [c]=-1:=Lib.index_none fun j hj=>by
        cases h3:Lib.occAt s [c] j with
        | false=>rfl
        | true=>exact absurd ((occC c s j).1 h3) (h j)
      have:=Lib.count_miss hi
      omega
    · have hi:Lib.index s [c]=i:=Lib.index_first (by have:=List.getElem?_eq_some_iff.1 h1;obtain⟨h3,_⟩:=this;omega) ((occC c s i).2 h1) fun j hj=>by
        have:=h2 j hj
        cases h3:Lib.occAt s [c] j with
        | false=>rfl
        | true=>exact absurd ((occC c s j).1 h3) this
      have hc:=Lib.count_hit (by simp) hi
      have hn:¬((i:Int) == -1)=true:=by simp
      simp only[Lib.splitK,hi,hn,if_false,Int.toNat_natCast,List.length_singleton]
      simp only[List.length_singleton] at hc
      rw[ih _ (by omega),splitC_some c s [] i h1 h2]
      simp
theorem splitC_len (c:UInt8):∀(s cur:Str),flen (splitC c cur s)≤cur.length+s.length∧(splitC c cur s).length≤s.length+1
  | [],cur=>by simp[splitC,flen]
  | x::s,cur=>by
    have h1:=splitC_len c s []
    have h2:=splitC_len c s (cur++[x])
    simp only[splitC]
    split
    · simp only[flen,List.flatten_cons,List.length_append,List.length_cons,List.length_nil] at *
      omega
    · simp only[List.length_append,List.length_cons,List.length_nil] at *
      omega
theorem linesS_len (s:Str):flen (linesS s).1≤s.length∧(linesS s).1.length≤s.length+1:=by
  unfold linesS
  split
  · simp[flen]
  · split
    · simp only
      rw[splitK_C 10 _ _ rfl]
      have h1:=splitC_len 10 (cutSuf s [10]) []
      have h2:(cutSuf s [10]).length≤s.length:=by unfold cutSuf;split <;> simp
      simp only[List.length_nil] at h1
      omega
    · simp[flen]
theorem foldP_ok:∀(R:List Str) (x y:PsT) (N:Nat),PsOk x N→foldP x R=some y→N+131 * R.length+flen R≤1000000000→flen R≤1048576→PsOk y (N+131 * R.length+flen R)
  | [],x,y,N,h,hf,_,_=>by
    simp only[foldP,Option.some.injEq] at hf
    subst hf
    simpa [flen] using h
  | l::R,x,y,N,h,hf,hN,hl=>by
    simp only[foldP] at hf
    have e:flen (l::R)=l.length+flen R:=by simp[flen]
    rw[e,List.length_cons] at hN
    rw[e] at hl
    cases hs:stepV2 x l with
    | none=>rw[hs] at hf;cases hf
    | some z =>
      rw[hs] at hf
      have:=foldP_ok R z y _ (h.step hs (by omega) (by omega)) hf (by omega) (by omega)
      rw[e,List.length_cons]
      rw[show N+131 * (R.length+1)+(l.length+flen R)=N+131+l.length+131 * R.length+flen R by omega]
      exact this
theorem parseV_ok {l:List Str} {p:PatchT} (h:parseV l=some p) (h1:flen l≤1048576) (h2:l.length≤1048577):PatOk p:=by
  unfold parseV at h
  split at h
  · cases h
  · rename_i hlen
    split at h
    · have n0:=nameV_len (l.getD 0 []) [45,45,45,32]
      have n1:=nameV_len (l.getD 1 []) [43,43,43,32]
      have g0:(l.getD 0 []).length≤flen l:=by
        have:=mem_flat_le (l:=l) (i:=0) (by omega)
        have e:l.getD 0 []=l[0]:=by simp[List.getD,show 0<l.length by omega]
        unfold flen
        rw[e]
        omega
      have g1:(l.getD 1 []).length≤flen l:=by
        have:=mem_flat_le (l:=l) (i:=1) (by omega)
        have e:l.getD 1 []=l[1]:=by simp[List.getD,show 1<l.length by omega]
        unfold flen
        rw[e]
        omega
      have hfr:flen (l.drop 2)≤1048576:=by have:=flen_take l 2;omega
      have hlr:(l.drop 2).length=l.length-2:=by simp
      generalize nameV (l.getD 0 []) [45,45,45,32]=a at *
      generalize nameV (l.getD 1 []) [43,43,43,32]=b at *
      split at h
      · cases h
      · rename_i x hx
        cases h
        have ok:=foldP_ok _ _ _ 0 ⟨by simp[PsT.M,PsT.hunks,hunksM],fun _=>rfl,by simp[PsT.hunks],by simp only;omega,by simp only;omega⟩ hx (by omega) hfr
        have hw:=hunksW_le x.hunks
        have hm:=ok.m
        have hn:=hunks_leM x.hunks
        have q0:=quote_len x.old
        have q1:=quote_len x.new
        have o1:=ok.old
        have o2:=ok.new
        simp only[PsT.M] at hm
        refine⟨ok.old,ok.new,?_,by simp only;omega,ok.oks⟩
        simp only[writV,namesW,List.length_append,List.length_cons,List.length_nil]
        omega
    · cases h
def readD (s:Str):D:=.tup [Rep.to (readP s).1,.int .i64 (readP s).2]
@[simp] def S_strict_Parse:List D→Prop × D:=spec1 (α:=Str) (fun s=>s.length≤1048576) (fun s=>readD s)
theorem ct_strict_Parse {P:Program} {f g1 g2 g3:Nat} {G:Gam} (h:CodeOf P f 1 12 [32001,2] (x_strict_Parse g1 g2 g3)) (hG:GamOk P G) (h1:G.find g1=some S_strict_Lines) (h2:G.find g2=some S_strict_parse) (h3:G.find g3=some S_unified_Format):Has P f S_strict_Parse:=h.has1 hG fun s hp=>by
  have n1:¬(16777216:Int)<s.length:=by omega
  have hll:=linesS_len s
  have er:readP s=if (linesS s).2=false then ((⟨[],[],[]⟩:PatchT),(4:Int)) else
    match parseV (linesS s).1 with
    | none=>(⟨[],[],[]⟩,4)
    | some p=>if chkP p=0∧writV p=s then (p,0) else (⟨[],[],[]⟩,4):=by
    unfold readP
    rw[if_neg (by omega)] <;> rfl
  have el:((linesS s).2=true∧∃d,linesSD s=.tup [d,.bool true]∧Rep.of (α:=List Str) d=some (linesS s).1)∨((linesS s).2=false∧linesSD s=.tup [.nilsl,.bool false]):=by
    unfold linesSD
    by_cases c:s=[]
    · left
      subst c
      exact⟨rfl,.nilsl,by simp,rfl⟩
    · by_cases c2:Lib.hasSuffix s [10]=true
      · left
        refine⟨by unfold linesS;rw[if_neg c,if_pos c2],Rep.to (linesS s).1,by rw[if_neg c,if_pos c2],Rep.of_to _⟩
      · right
        refine⟨by unfold linesS;rw[if_neg c,if_neg c2],by rw[if_neg c,if_neg c2]⟩
  rcases el with ⟨e1,d,e2,e3⟩ | ⟨e1,e2⟩
  · rw[if_neg (by rw[e1];simp)] at er
    generalize linesS s=ls at *
    obtain⟨l,ok⟩:=ls
    simp only at *
    have hfl:flen l≤1048576:=by omega
    have hln:l.length≤1048577:=by omega
    cases hpv:parseV l with
    | none =>
      rw[hpv] at er
      have ed:parseD l=.tup [Rep.to (⟨[],[],[]⟩:PatchT),.bool false]:=by unfold parseD;rw[hpv]
      simp only[readD,er]
      simp[x_strict_Parse,n1,h1,show s.length≤16777216 by omega,e2,h2,e3,hfl,hln,ed]
    | some p =>
      rw[hpv] at er
      simp only at er
      have ed:parseD l=.tup [Rep.to p,.bool true]:=by unfold parseD;rw[hpv]
      have pk:PatOk ⟨p.oldName,p.newName,p.hunks⟩:=parseV_ok hpv hfl hln
      have ef:fmtP ⟨p.oldName,p.newName,p.hunks⟩=fmtP p:=rfl
      by_cases c1:chkP p=0
      · have efp:fmtP p=.tup [.str (writV p),.int .i64 0]:=if_pos c1
        by_cases c2:writV p=s
        · rw[if_pos ⟨c1,c2⟩] at er
          simp only[readD,er]
          simp[x_strict_Parse,n1,h1,show s.length≤16777216 by omega,e2,h2,e3,hfl,hln,ed,h3,pk,ef,efp,c2]
        · rw[if_neg (fun h=>c2 h.2)] at er
          simp only[readD,er]
          simp[x_strict_Parse,n1,h1,show s.length≤16777216 by omega,e2,h2,e3,hfl,hln,ed,h3,pk,ef,efp,c2]
      · have efp:fmtP p=.tup [.str [],.int .i64 (chkP p)]:=if_neg c1
        rw[if_neg (fun h=>c1 h.1)] at er
        simp only[readD,er]
        simp[x_strict_Parse,n1,h1,show s.length≤16777216 by omega,e2,h2,e3,hfl,hln,ed,h3,pk,ef,efp,c1]
  · rw[if_pos e1] at er
    simp only[readD,er]
    simp[x_strict_Parse,n1,h1,show s.length≤16777216 by omega,e2]
def strsD (l:List Str):List D:=l.map Rep.to
theorem strsD_one (l:List Str) (x:Str):strsD l++[.str x]=strsD (l++[x]):=by simp[strsD]
theorem strsD_len (l:List Str):(strsD l).length=l.length:=by simp[strsD]
@[simp] def S_patch_sides:List D→Prop × D:=spec1 (α:=PHunkT) (fun h=>h.lines.length≤1000000000) (fun h=>.tup [Rep.to (oldL h.lines),Rep.to (newL h.lines)])
theorem ct_patch_sides {P:Program} {f:Nat} {G:Gam} (h:CodeOf P f 1 11 [2,3] x_patch_sides) (hG:GamOk P G):Has P f S_patch_sides:=h.has1 hG fun x hp=>by
  obtain⟨o,n,l⟩:=x
  simp only at hp
  simp[x_patch_sides]
  refine vc_lp (σ:=Nat) (fun i=>i≤l.length) (fun i=>l.length-i) (fun i=>[.any,.ref 0 0 0 0,.gr 1 1 (strsD (oldL (l.take i))),.gr 2 1 (strsD (newL (l.take i))),.any,.d (.sl 2 (l.map Rep.to)),.d (.int .i64 l.length),.d (.int .i64 i),.any,.any,.any])
    (fun i=>[.cells 0 3 [.d (Rep.to (⟨o,n,l⟩:PHunkT))],.tip (oldL (l.take i)).length,.tip (newL (l.take i)).length]) 0 (by simp[oldL,newL,strsD]) (by simp[oldL,newL]) (by simp) ?_
  intro i i1
  have a1:=old_le (l.take i)
  have a2:=new_le (l.take i)
  rw[List.length_take] at a1 a2
  by_cases hi:i<l.length
  · have e1:=old_succ hi
    have e2:=new_succ hi
    have w1:IntKind.i64.wrap ((i:Int)+1)=(i:Int)+1:=wrap_in (by omega) (by omega)
    have l1:=strsD_len (oldL (l.take i))
    have l2:=strsD_len (newL (l.take i))
    have s1:=strsD_one (oldL (l.take i)) l[i].text
    have s2:=strsD_one (newL (l.take i)) l[i].text
    by_cases c1:l[i].kind=43
    · simp[hi,getD_map,c1,w1,l2,s2]
      refine⟨by unfold room;omega,Nxt.mk (i+1) (by omega) ?_ ?_ (by omega)⟩
      · simp[e1,e2,c1]
      · simp[e1,e2,c1]
    · by_cases c2:l[i].kind=45
      · simp[hi,getD_map,c2,w1,l1,s1]
        refine⟨by unfold room;omega,Nxt.mk (i+1) (by omega) ?_ ?_ (by omega)⟩
        · simp[e1,e2,c2]
        · simp[e1,e2,c2]
      · simp[hi,getD_map,c1,c2,w1,l1,s1,l2,s2]
        refine⟨by unfold room;omega,by unfold room;omega,Nxt.mk (i+1) (by omega) ?_ ?_ (by omega)⟩
        · simp[e1,e2,c1,c2]
        · simp[e1,e2,c1,c2]
  · rw[List.take_of_length_le (by omega)]
    simp[hi,strsD]
def prepD (p:PatchT) (b:Str):D:=if chkP p=0 then splitD b else .tup [.nilsl,.int .i64 (chkP p)]
@[simp] def S_patch_prepare:List D→Prop × D:=spec2 (α:=PatchT) (β:=Str) (fun p b=>PatOk p∧b.length≤4194304) (fun p b=>prepD p b)
theorem ct_patch_prepare {P:Program} {f g1 g2:Nat} {G:Gam} (h:CodeOf P f 2 7 [3,4] (x_patch_prepare g1 g2)) (hG:GamOk P G) (h1:G.find g1=some S_unified_Check) (h2:G.find g2=some S_text_Split):Has P f S_patch_prepare:=h.has2 hG fun p b hp=>by
  obtain⟨hp,hb⟩:=hp
  have pk:PatOk ⟨p.oldName,p.newName,p.hunks⟩:=hp
  have hc:chkP ⟨p.oldName,p.newName,p.hunks⟩=chkP p:=rfl
  by_cases c:chkP p=0
  · have e:prepD p b=splitD b:=if_pos c
    rw[e]
    by_cases c2:checkT b=0
    · rw[splitD,if_pos c2]
      simp[x_patch_prepare,h1,pk,hc,c,h2,hb,splitD,c2]
    · rw[splitD,if_neg c2]
      simp[x_patch_prepare,h1,pk,hc,c,h2,hb,splitD,c2]
  · have e:prepD p b=.tup [.nilsl,.int .i64 (chkP p)]:=if_neg c
    rw[e]
    simp[x_patch_prepare,h1,pk,hc,c]
@[simp] def S_patch_found:List D→Prop × D:=spec3 (α:=List Str) (β:=Int) (γ:=List Str) (fun l a o=>l.length≤1000000000∧o.length≤1000000000∧0≤a) (fun l a o=>.bool (foundV l a o))
theorem ct_patch_found {P:Program} {f g1:Nat} {G:Gam} (h:CodeOf P f 3 4 [3] (x_patch_found g1)) (hG:GamOk P G) (h1:G.find g1=some S_slices_Equal_string_string):Has P f S_patch_found:=h.has3 hG fun l a o hp=>by
  obtain⟨p1,p2,p3⟩:=hp
  obtain⟨k,rfl⟩:=Int.eq_ofNat_of_zero_le p3
  have e:foundV l k o=(decide ((k:Int)≤l.length) && decide ((o.length:Int)≤l.length-k) && decide ((l.drop k).take o.length=o)):=rfl
  by_cases c1:k≤l.length
  · have w1:IntKind.i64.wrap ((l.length:Int)-k)=(l.length:Int)-k:=wrap_in (by omega) (by omega)
    have w2:IntKind.i64.wrap ((k:Int)+o.length)=((k+o.length:Nat):Int):=by rw[wrap_in (by omega) (by omega)];omega
    by_cases c2:(o.length:Int)≤(l.length:Int)-k
    · simp only[Int.natCast_add] at w2
      have w3:((k:Int)+o.length).toNat-k=o.length:=by omega
      simp[x_patch_found,e,c1,c2,w1,w2,w3,h1,show k+o.length≤l.length by omega]
      omega
    · simp[x_patch_found,e,c1,c2,w1]
  · simp[x_patch_found,e,c1,show ¬(k:Int)≤l.length by omega]
@[simp] def S_patch_swapped:List D→Prop × D:=spec1 (α:=U8T) (fun _=>True) (fun k=>.int .u8 (swapK k.n))
theorem ct_patch_swapped {P:Program} {f:Nat} {G:Gam} (h:CodeOf P f 1 5 [1] x_patch_swapped) (hG:GamOk P G):Has P f S_patch_swapped:=h.has1 hG fun k _=>by
  obtain⟨k⟩:=k
  by_cases c1:k=45
  · subst c1;simp[x_patch_swapped,swapK]
  · by_cases c2:k=43
    · subst c2;simp[x_patch_swapped,swapK]
    · simp[x_patch_swapped,swapK,c1,c2]
theorem flen_app (a b:List Str):flen (a++b)=flen a+flen b:=by simp[flen]
theorem flen_new (l:List PLineT):flen (newL l)≤(linesT l l.length).length:=by
  unfold linesT
  rw[List.take_length]
  induction l with
  | nil=>simp[newL,flen]
  | cons x r ih =>
    have e:newL (x::r)=(if x.kind=45 then [] else [x.text])++newL r:=by
      by_cases c:x.kind=45 <;> simp[newL,c]
    rw[e,flen_app,List.flatMap_cons,List.length_append]
    have:flen (if x.kind=45 then [] else [x.text])≤(lineW x).length:=by
      split
      · simp[flen]
      · simp[flen,lineW];omega
    omega
theorem flen_cut (l:List Str) (a d:Nat):flen (l.take (a+d))=flen (l.take a)+flen ((l.drop a).take d):=by
  rw[List.take_add,flen_app]
theorem flen_mono (l:List Str) {a b:Nat} (h:a≤b):flen (l.take a)≤flen (l.take b):=by
  obtain⟨d,rfl⟩:∃d,b=a+d:=⟨b-a,by omega⟩
  rw[flen_cut]
  omega
def PatS (p:PatchT):Prop:=PatOk p∧(writV p).length≤2000000
theorem splitD_spec (b:Str):(checkT b=0∧splitD b=.tup [Rep.to (linesV b),.int .i64 0])∨(checkT b≠0∧splitD b=.tup [.nilsl,.int .i64 1]):=by
  by_cases c:checkT b=0
  · exact .inl ⟨c,if_pos c⟩
  · exact .inr ⟨c,if_neg c⟩
theorem joinD_P (l:List Str):(listV l=true∧joinD l=.tup [.str (joinP l).1,.int .i64 (joinP l).2]∧(joinP l).2≠2)∨(listV l=false∧joinD l=.tup [.str [],.int .i64 2]∧joinP l=([],140)):=by
  unfold joinD joinP
  cases c:listV l with
  | true =>
    left
    rw[join_flat]
    by_cases d:flen l≤1048576∧l.length≤4096
    · simp[d]
    · simp[d]
  | false=>right;simp
structure ApX where
  i:Nat
  a:Nat
  out:List Str
  o:SideT
  n:SideT
def apI (p:PatchT) (L:List Str) (x:ApX):Prop:=x.i≤p.hunks.length∧x.a≤L.length∧wellV x.o x.n (p.hunks.drop x.i)=true∧x.o.fin=x.a∧x.n.fin=x.out.length∧x.n.fin≤4096∧flen x.out≤flen (L.take x.a)+(writT p x.i).length∧applyL L x.a x.out (p.hunks.drop x.i)=applyL L 0 [] p.hunks
@[simp] def S_patch_Apply:List D→Prop × D:=spec2 (α:=PatchT) (β:=Str) (fun p b=>PatS p∧b.length≤1048576) (fun p b=>.tup [.str (applyV p b).1,.int .i64 (applyV p b).2])
theorem ct_patch_Apply {P:Program} {f g1 g2 g3 g4:Nat} {G:Gam} (h:CodeOf P f 2 20 [3,4] (x_patch_Apply g1 g2 g3 g4)) (hG:GamOk P G) (h1:G.find g1=some S_patch_prepare) (h2:G.find g2=some S_patch_sides) (h3:G.find g3=some S_patch_found) (h4:G.find g4=some S_text_Join):Has P f S_patch_Apply:=h.has2 hG fun p b hp=>by
  obtain⟨⟨hp,hs⟩,hb⟩:=hp
  have pk:PatOk ⟨p.oldName,p.newName,p.hunks⟩:=hp
  have hpe:prepD ⟨p.oldName,p.newName,p.hunks⟩ b=prepD p b:=rfl
  by_cases c:chkP p=0
  · have e:prepD p b=splitD b:=if_pos c
    rcases splitD_spec b with ⟨c2,e2⟩ | ⟨c2,e2⟩
    · have ev:applyV p b=applyO (applyL (linesV b) 0 [] p.hunks):=by unfold applyV;rw[if_neg (by rw[c];simp),if_neg (by rw[c2];simp)]
      have hLb:flen (linesV b)=b.length:=by unfold flen;rw[lines_flat]
      have hLl:=checkT_lns c2
      generalize hL:linesV b=L at *
      have hT:flen (L.take L.length)=b.length:=by rw[List.take_length];exact hLb
      obtain⟨q1,q2,q3,q4,q5⟩:=hp
      simp[x_patch_Apply,h1,pk,hpe,e,e2,show b.length≤4194304 by omega]
      refine vc_lp (σ:=ApX) (apI p L) (fun x=>p.hunks.length-x.i)
        (fun x=>[.any,.any,.ref 0 0 0 0,.any,.any,.d (.sl 1 (L.map Rep.to)),.d (.int .i64 0),.gr 1 1 (strsD x.out),.d (.int .i64 x.a),.any,.any,.any,.any,.any,.d (.sl 3 (p.hunks.map Rep.to)),.d (.int .i64 p.hunks.length),.d (.int .i64 x.i),.any,.any,.any])
        (fun x=>[.cells 0 3 [.d (Rep.to p)],.tip x.out.length]) ⟨0,0,[],⟨0,false⟩,⟨0,false⟩⟩ (by simp[strsD]) (by simp) ⟨by simp,by simp,by simpa using (chkP_zero.1 c).2.2.1,rfl,rfl,by simp,by simp[flen],by simp⟩ ?_
      rintro⟨i,a,out,o,n⟩ ⟨i1,i2,i3,i4,i5,i6,i7,i8⟩
      simp only at i1 i2 i3 i4 i5 i6 i7 i8
      have hol:=strsD_len out
      by_cases hi:i<p.hunks.length
      · have w1:IntKind.i64.wrap ((i:Int)+1)=(i:Int)+1:=wrap_in (by omega) (by omega)
        have hh:=q5 _ (List.getElem_mem hi)
        rw[List.drop_eq_getElem_cons hi] at i3 i8
        simp only[wellV,Bool.and_eq_true] at i3
        obtain⟨_,k2,k3⟩:=i3
        have hr:=placed_rng k2
        have hws:=writT_succ hi
        have hwl:=congrArg List.length hws
        rw[List.length_append,List.length_append] at hwl
        have hfn:=flen_new p.hunks[i].lines
        have a1:=old_le p.hunks[i].lines
        have a2:=new_le p.hunks[i].lines
        have hw9:=writT_le p (i+1)
        have hpos:posOk p.hunks[i] o n=true:=by
          by_cases c:posOk p.hunks[i] o n=true
          · exact c
          · unfold placedV at k2;rw[if_neg c] at k2;cases k2
        have hopn:(openL o.opn n.opn p.hunks[i].lines).2=true:=by
          by_cases c:(openL o.opn n.opn p.hunks[i].lines).2=true
          · exact c
          · unfold placedV at k2;rw[if_pos hpos,if_neg c] at k2;cases k2
        have hpl:(placedV p.hunks[i] o n).1=(⟨p.hunks[i].old+(oldL p.hunks[i].lines).length,(openL o.opn n.opn p.hunks[i].lines).1.1⟩,⟨p.hunks[i].new+(newL p.hunks[i].lines).length,(openL o.opn n.opn p.hunks[i].lines).1.2⟩):=by
          unfold placedV
          rw[if_pos hpos,if_pos hopn]
        rw[hpl] at k3 hr
        simp only at hr
        rw[posOk_iff] at hpos
        rw[applyL] at i8
        cases cf:foundV L p.hunks[i].old (oldL p.hunks[i].lines) with
        | false =>
          rw[cf,if_neg (by simp)] at i8
          rw[ev,← i8]
          simp[hi,getD_map,h2,hh.1,h3,cf,show L.length≤1000000000 by omega,show (oldL p.hunks[i].lines).length≤1000000000 by have:=hh.1;omega,hpos.1,applyO]
        | true =>
          rw[cf,if_pos rfl] at i8
          obtain⟨k,hk,hkl,_⟩:=found_spec cf hpos.1
          have hak:a≤k:=by omega
          rw[hk] at cf
          rw[hk,Int.toNat_natCast] at i8
          have hcut:((L.drop a).take (k-a)).length=k-a:=by simp;omega
          have hfc:=flen_cut L a (k-a)
          rw[Nat.add_sub_cancel' hak] at hfc
          have hfm:=flen_mono L (show k≤k+(oldL p.hunks[i].lines).length by omega)
          have w2:IntKind.i64.wrap ((k:Int)+(oldL p.hunks[i].lines).length)=(k:Int)+(oldL p.hunks[i].lines).length:=wrap_in (by omega) (by omega)
          have hnl:(newL p.hunks[i].lines).length≤4096:=by omega
          have s1:strsD out++List.take (k-a) (List.drop a (L.map Rep.to))++(newL p.hunks[i].lines).map Rep.to=strsD (out++(L.drop a).take (k-a)++newL p.hunks[i].lines):=by simp[strsD,List.map_take,List.map_drop]
          simp only[List.append_assoc] at s1
          have hkl2:k≤L.length:=by omega
          have hlen3:(out++(List.take (k-a) (List.drop a L)++newL p.hunks[i].lines)).length=out.length+(k-a)+(newL p.hunks[i].lines).length:=by
            rw[List.length_append,List.length_append,hcut]
            omega
          have hfl:flen (out++(List.take (k-a) (List.drop a L)++newL p.hunks[i].lines))=flen out+flen ((L.drop a).take (k-a))+flen (newL p.hunks[i].lines):=by rw[flen_app,flen_app];omega
          rw[List.append_assoc] at i8
          simp[hi,getD_map,h2,hh.1,h3,hk,cf,show L.length≤1000000000 by omega,show (oldL p.hunks[i].lines).length≤1000000000 by have:=hh.1;omega,hak,hkl2,hol,w1,w2,s1]
          refine⟨by unfold room;omega,by unfold room;omega,Nxt.mk (⟨i+1,k+(oldL p.hunks[i].lines).length,out++(List.take (k-a) (List.drop a L)++newL p.hunks[i].lines),⟨p.hunks[i].old+(oldL p.hunks[i].lines).length,(openL o.opn n.opn p.hunks[i].lines).1.1⟩,⟨p.hunks[i].new+(newL p.hunks[i].lines).length,(openL o.opn n.opn p.hunks[i].lines).1.2⟩⟩:ApX) (by simp only;omega) (by simp) ?_ ⟨by simp only;omega,by simp only;omega,k3,by simp only;omega,by simp only[hlen3];omega,by simp only;omega,by simp only[hfl];omega,i8⟩⟩
          simp
          omega
      · have hi2:i=p.hunks.length:=by omega
        subst hi2
        rw[List.drop_length,applyL] at i8
        rw[writT_end] at i7
        have hd:flen (L.drop a)+flen (L.take a)=b.length:=by rw[← hLb,flen_take L a];omega
        have s1:strsD out++List.take (L.length-a) (List.drop a (L.map Rep.to))=strsD (out++L.drop a):=by
          rw[List.take_of_length_le (by simp)]
          simp[strsD,List.map_drop]
        have hfl:flen (out++L.drop a)≤4194304:=by rw[flen_app];omega
        have hll:(out++L.drop a).length≤4194304:=by simp;omega
        have ev2:applyV p b=joinP (out++L.drop a):=by rw[ev,← i8];rfl
        rw[ev2]
        generalize hF:out++L.drop a=F at *
        have hrep:strsD F=F.map Rep.to:=rfl
        rcases joinD_P F with ⟨j1,j2,j3⟩ | ⟨j1,j2,j3⟩
        · simp[hi,i2,hol,s1,h4,hfl,hll,j2,j3,hrep]
          unfold room
          omega
        · simp[hi,i2,hol,s1,h4,hfl,hll,j2,j3,hrep]
          unfold room
          omega
    · have ev:applyV p b=([],1):=by unfold applyV;rw[if_neg (by rw[c];simp),if_pos c2]
      rw[ev]
      simp[x_patch_Apply,h1,pk,hpe,e,e2,show b.length≤4194304 by omega]
  · have e:prepD p b=.tup [.nilsl,.int .i64 (chkP p)]:=if_neg c
    have ev:applyV p b=([],chkP p):=by unfold applyV;rw[if_pos c]
    rw[ev]
    simp[x_patch_Apply,h1,pk,hpe,e,c,show b.length≤4194304 by omega]
def revD (p:PatchT):D:=if chkP p=0 then .tup [Rep.to (revP p),.int .i64 0] else .tup [Rep.to (⟨[],[],[]⟩:PatchT),.int .i64 (chkP p)]
def revT (l:List PHunkT) (i:Nat):List D:=(l.take i).map fun h=>Rep.to (revH h)
def revLT (l:List PLineT) (j:Nat):List D:=(l.take j).map fun x=>Rep.to (revL x)
theorem revT_succ {l:List PHunkT} {i:Nat} (h:i<l.length):revT l i++[Rep.to (revH l[i])]=revT l (i+1):=by unfold revT;rw[List.take_succ_eq_append_getElem h,List.map_append];rfl
theorem revLT_succ {l:List PLineT} {i:Nat} (h:i<l.length):revLT l i++[Rep.to (revL l[i])]=revLT l (i+1):=by unfold revLT;rw[List.take_succ_eq_append_getElem h,List.map_append];rfl
@[simp] def S_patch_Reverse:List D→Prop × D:=spec1 (α:=PatchT) PatOk (fun p=>revD p)
theorem ct_patch_Reverse {P:Program} {f g1 g2:Nat} {G:Gam} (h:CodeOf P f 1 18 [32002,3] (x_patch_Reverse g1 g2)) (hG:GamOk P G) (h1:G.find g1=some S_unified_Check) (h2:G.find g2=some S_patch_swapped):Has P f S_patch_Reverse:=h.has1 hG fun p hp=>by
  have pk:PatOk ⟨p.oldName,p.newName,p.hunks⟩:=hp
  have hc:chkP ⟨p.oldName,p.newName,p.hunks⟩=chkP p:=rfl
  obtain⟨q1,q2,q3,q4,q5⟩:=hp
  by_cases c:chkP p=0
  · have e:revD p=.tup [Rep.to (revP p),.int .i64 0]:=if_pos c
    rw[e]
    simp[x_patch_Reverse,h1,pk,hc,c]
    refine vc_lpR (σ:=Nat) (fun i=>i≤p.hunks.length) (fun i=>p.hunks.length-i)
      (fun i=>[.any,.any,.ref 1 0 0 0,.any,.any,.ref 2 0 0 0,.any,.any,.any,.any,.d (.sl 3 (p.hunks.map Rep.to)),.d (.int .i64 p.hunks.length),.d (.int .i64 i),.any,.any,.any,.any,.any])
      (fun i=>[.cells 0 3 [.d (Rep.to p)],.cells 0 3 [.d (.agg [.str [],.str [],.nilsl])],.cells 0 3 [.agg [.d (.str p.newName),.d (.str p.oldName),.gr 3 3 (revT p.hunks i)]],.tip i]) 0 ?_ (by simp) ?_
    · refine Re.wn (s':=[.cells 0 3 [.d (Rep.to p)],.cells 0 3 [.d (.agg [.str [],.str [],.nilsl])],.cells 0 3 [.agg [.d (.str p.newName),.d (.str p.oldName),.gr 3 3 (revT p.hunks 0)]]]) [false,false,true,false,false,true,false,false,false,false,true,true,true] [.tip 0] (by simp) (by simp) ?_ ?_ (by simp)
      · simp
      · refine⟨.inl rfl,.inl rfl,.cellsL ?_,trivial⟩
        simp
        exact Wk.fresh _ _ _ 0 rfl
    intro i i1
    by_cases hi:i<p.hunks.length
    · have w1:IntKind.i64.wrap ((i:Int)+1)=(i:Int)+1:=wrap_in (by omega) (by omega)
      have hh:=q5 _ (List.getElem_mem hi)
      have hs:=revT_succ hi
      have hrl:(revT p.hunks i).length=i:=by simp[revT];omega
      simp[hi,getD_map]
      obtain⟨hh1,hh2⟩:=hh
      have hrh:(revH p.hunks[i])=⟨p.hunks[i].new,p.hunks[i].old,p.hunks[i].lines.map revL⟩:=rfl
      rw[hrh] at hs
      generalize hl:p.hunks[i].lines=l at *
      generalize p.hunks[i].old=ho at *
      generalize p.hunks[i].new=hn at *
      refine vc_lpR (σ:=Nat) (fun j=>j≤l.length) (fun j=>l.length-j)
        (fun j=>[.any,.any,.ref 1 0 0 0,.any,.any,.ref 2 0 0 0,.any,.ref 5 0 0 0,.any,.any,.d (.sl 3 (p.hunks.map Rep.to)),.d (.int .i64 p.hunks.length),.d (.int .i64 i),.any,.d (.sl 2 (l.map Rep.to)),.d (.int .i64 l.length),.d (.int .i64 j),.any])
        (fun j=>[.cells 0 3 [.d (Rep.to p)],.cells 0 3 [.d (.agg [.str [],.str [],.nilsl])],.cells 0 3 [.agg [.d (.str p.newName),.d (.str p.oldName),.gr 3 3 (revT p.hunks i)]],.tip i,.cells 0 3 [.d (.agg [.int .i64 ho,.int .i64 hn,.sl 2 (l.map Rep.to)])],.cells 0 3 [.agg [.d (.int .i64 hn),.d (.int .i64 ho),.gr 6 2 (revLT l j)]],.tip j]) 0 ?_ (by simp) ?_
      · refine Re.wn (s':=[.cells 0 3 [.d (Rep.to p)],.cells 0 3 [.d (.agg [.str [],.str [],.nilsl])],.cells 0 3 [.agg [.d (.str p.newName),.d (.str p.oldName),.gr 3 3 (revT p.hunks i)]],.tip i,.cells 0 3 [.d (.agg [.int .i64 ho,.int .i64 hn,.sl 2 (l.map Rep.to)])],.cells 0 3 [.agg [.d (.int .i64 hn),.d (.int .i64 ho),.gr 6 2 (revLT l 0)]]]) [false,false,true,false,false,true,false,true,false,false,true,true,true,false,true,true,true] [.tip 0] (by simp) (by simp) ?_ ?_ (by simp)
        · simp
        · refine⟨.inl rfl,.inl rfl,.inl rfl,.inl rfl,.inl rfl,.cellsL ?_,trivial⟩
          simp
          exact Wk.fresh _ _ _ 0 rfl
      intro j j1
      have hjl:(revLT l j).length=j:=by simp[revLT];omega
      by_cases hj:j<l.length
      · have w2:IntKind.i64.wrap ((j:Int)+1)=(j:Int)+1:=wrap_in (by omega) (by omega)
        have hs2:=revLT_succ hj
        have hrl2:revL l[j]=⟨swapK l[j].kind,l[j].text⟩:=rfl
        rw[hrl2] at hs2
        simp only[to_PLine] at hs2
        simp[hj,getD_map,h2,hjl,w2,hs2]
        refine⟨by unfold room;omega,Nxt.mk (j+1) (by omega) (by simp) (by simp) (by omega)⟩
      · have e:revLT l j=(l.map revL).map Rep.to:=by unfold revLT;rw[List.take_of_length_le (by omega),List.map_map];rfl
        rw[e]
        simp only[to_PHunk] at hs
        simp[hj,hrl,w1]
        simp at hs
        rw[hs]
        refine⟨by unfold room;omega,Nxt.mk (i+1) (by omega) (by simp) (by simp) (by omega)⟩
    · have e:revT p.hunks i=(p.hunks.map revH).map Rep.to:=by unfold revT;rw[List.take_of_length_le (by omega),List.map_map];rfl
      rw[e]
      simp[hi,revP]
  · have e:revD p=.tup [Rep.to (⟨[],[],[]⟩:PatchT),.int .i64 (chkP p)]:=if_neg c
    rw[e]
    simp[x_patch_Reverse,h1,pk,hc,c]
def A.grx:A→List D
  | .gr _ _ xs=>xs
  | _=>[]
@[simp] theorem grx_gr (l e:Nat) (xs:List D):A.grx (.gr l e xs)=xs:=rfl
structure LnX where
  xs:List D
  k:Int
  l:List Str
def tagD (k:Int) (l:List Str):List D:=(tagL k l).map Rep.to
theorem tagD_len (k:Int) (l:List Str):(tagD k l).length=l.length:=by simp[tagD,tagL]
theorem tagD_one (k:Int) (l:List Str) (t:Str):tagD k l++[.agg [.int .u8 k,.str t]]=tagD k (l++[t]):=by simp[tagD,tagL]
@[simp] def F_unified_lines:RF LnX where
  new:=0
  view a _:=⟨(a.getD 0 .any).grx,(a.getD 1 .any).gi,(a.getD 2 .any).gl Str⟩
  args x:=[.gr 0 2 x.xs,.d (.int .u8 x.k),.d (.sl 1 (x.l.map Rep.to))]
  st x:=[.tip x.xs.length]
  pre x:=x.xs.length+x.l.length≤1000000000
  res x:=.gr 0 2 (x.xs++tagD x.k x.l)
  st' x:=[.tip (x.xs.length+x.l.length)]
abbrev R_unified_lines:RSpec:=F_unified_lines.spec
theorem ct_unified_lines {P:Program} {f:Nat} {G:Gam} (hc:CodeOf P f 3 9 [3] x_unified_lines) (hG:GamOk P G):RSpec.Ok P f R_unified_lines:=by
  refine RF.ok hc.call fun x hx=>hc.rcalls hG rfl ?_
  obtain⟨xs,k,l⟩:=x
  have hx:xs.length+l.length≤1000000000:=hx
  simp[x_unified_lines,startA]
  refine vc_lp (σ:=Nat) (fun i=>i≤l.length) (fun i=>l.length-i)
    (fun i=>[.gr 0 2 (xs++tagD k (l.take i)),.d (.int .u8 k),.any,.any,.any,.d (.sl 1 (l.map Rep.to)),.d (.int .i64 l.length),.d (.int .i64 i),.any]) (fun i=>[.tip (xs.length+i)]) 0 (by simp[tagD,tagL]) (by simp) (by simp) ?_
  intro i i1
  have hl:=tagD_len k (l.take i)
  rw[List.length_take] at hl
  by_cases hi:i<l.length
  · have w1:IntKind.i64.wrap ((i:Int)+1)=(i:Int)+1:=wrap_in (by omega) (by omega)
    have h1:=tagD_one k (l.take i) l[i]
    rw[← List.take_succ_eq_append_getElem hi] at h1
    simp[hi,w1,hl,Nat.min_eq_left i1,h1]
    refine⟨by unfold room;omega,Nxt.mk (i+1) (by omega) (by simp) (by simp;omega) (by omega)⟩
  · obtain rfl:i=l.length:=by omega
    rw[List.take_length]
    simp
    exact FinR.done (by simp) (by simp) rfl (by simp[resOf,resE]) (by simp) (by simp)
def bOk (x y:List Str):List ChangeT→Nat→Nat→Prop
  | [],s,t=>s≤t∧t≤x.length
  | c::r,s,t=>∃o d p e:Nat,c=⟨o,d,p,e⟩∧s≤o∧o+d≤x.length∧p+e≤y.length∧bOk x y r (o+d) t
theorem bOk_le {x y:List Str}:∀{g:List ChangeT} {s t:Nat},bOk x y g s t→s≤t∧t≤x.length
  | [],s,t,h=>h
  | c::r,s,t,h=>by
    obtain⟨o,d,p,e,rfl,h1,h2,h3,h4⟩:=h
    have:=bOk_le h4
    omega
theorem bLines_len {x y:List Str}:∀{g:List ChangeT} {s t:Nat},bOk x y g s t→(bLines x y g s t).length≤(t-s)+y.length * g.length
  | [],s,t,h=>by
    obtain⟨h1,h2⟩:=h
    simp only[bLines,tagL,List.length_map]
    rw[ct_len (by omega)]
    omega
  | c::r,s,t,h=>by
    obtain⟨o,d,p,e,rfl,h1,h2,h3,h4⟩:=h
    have ih:=bLines_len h4
    have hb:=bOk_le h4
    simp only[bLines,tagL,List.length_map,List.length_append,Int.toNat_natCast,List.length_cons]
    rw[ct_len (by omega),ct_len (by omega),ct_len (by omega),Nat.mul_succ]
    omega
def hunkArg (h:HunkT) (l:List ChangeT) (x y:List Str):Prop:=0≤h.first∧h.first≤h.last∧h.last≤l.length∧0≤h.ofr∧h.ofr≤4096∧0≤h.oto∧h.oto≤4096∧l.length≤8192∧x.length≤4096∧y.length≤4096∧bOk x y ((l.drop h.first.toNat).take (h.last-h.first).toNat) h.ofr.toNat h.oto.toNat
structure BdX where
  j:Nat
  s:Nat
  out:List PLineT
@[simp] def S_unified_build:List D→Prop × D:=spec4 (α:=HunkT) (β:=List ChangeT) (γ:=List Str) (δ:=List Str) (fun h l x y=>hunkArg h l x y) (fun h l x y=>Rep.to (buildV l x y h))
theorem ct_unified_build {P:Program} {f g1:Nat} {G:Gam} (h:CodeOf P f 4 13 [32005] (x_unified_build g1)) (hG:GamOk P G) (h1:G.findR g1=some R_unified_lines):Has P f S_unified_build:=h.has4 hG fun hh l x y hp=>by
  obtain⟨fi,la,ofr,oto,nfr,nto⟩:=hh
  obtain⟨p1,p2,p3,p4,p5,p6,p7,p8,p9,p10,p11⟩:=hp
  simp only at p1 p2 p3 p4 p5 p6 p7 p11
  obtain⟨fi,rfl⟩:=Int.eq_ofNat_of_zero_le p1
  obtain⟨la,rfl⟩:=Int.eq_ofNat_of_zero_le (show 0≤la by omega)
  obtain⟨s0,rfl⟩:=Int.eq_ofNat_of_zero_le p4
  obtain⟨t,rfl⟩:=Int.eq_ofNat_of_zero_le p6
  have e1:((la:Int)-(fi:Int)).toNat=la-fi:=by omega
  simp only[buildV,Int.toNat_natCast,e1] at *
  have hfl:fi≤la:=by omega
  have hll:la≤l.length:=by omega
  obtain⟨g,hg⟩:∃g,(l.drop fi).take (la-fi)=g:=⟨_,rfl⟩
  have hgm:List.take (la-fi) (List.drop fi (l.map Rep.to))=g.map Rep.to:=by rw[← hg,List.map_take,List.map_drop]
  rw[hg] at p11 ⊢
  simp[x_unified_build,hfl,hll,hgm]
  have hb:=bOk_le p11
  have hln:=bLines_len p11
  have hgl:g.length≤8192:=by rw[← hg];simp;omega
  have hln2:(bLines x y g s0 t).length≤40000000:=by
    have:y.length * g.length≤4096 * 8192:=Nat.mul_le_mul p10 hgl
    omega
  refine vc_lpR (σ:=BdX) (fun z=>z.j≤g.length∧bOk x y (g.drop z.j) z.s t∧z.out++bLines x y (g.drop z.j) z.s t=bLines x y g s0 t) (fun z=>g.length-z.j)
    (fun z=>[.any,.any,.d (.sl 1 (x.map Rep.to)),.d (.sl 1 (y.map Rep.to)),.ref 0 0 0 0,.ref 1 0 0 0,.ref 2 0 0 0,.d (.int .i64 z.s),.any,.d (.sl 4 (g.map Rep.to)),.d (.int .i64 g.length),.d (.int .i64 z.j),.any])
    (fun z=>[.cells 0 6 [.d (.agg [.int .i64 fi,.int .i64 la,.int .i64 s0,.int .i64 t,.int .i64 nfr,.int .i64 nto])],.cells 0 3 [.d (.agg [.int .i64 0,.int .i64 0,.nilsl])],.cells 0 3 [.agg [.d (.int .i64 s0),.d (.int .i64 nfr),.gr 3 2 (z.out.map Rep.to)]],.tip z.out.length]) ⟨0,s0,[]⟩ ?_ ⟨by simp,by simpa using p11,by simp⟩ ?_
  · refine Re.wn (s':=[.cells 0 6 [.d (.agg [.int .i64 fi,.int .i64 la,.int .i64 s0,.int .i64 t,.int .i64 nfr,.int .i64 nto])],.cells 0 3 [.d (.agg [.int .i64 0,.int .i64 0,.nilsl])],.cells 0 3 [.agg [.d (.int .i64 s0),.d (.int .i64 nfr),.gr 3 2 []]]]) [false,false,true,true,true,true,true,true,false,true,true,true] [.tip 0] (by simp) (by simp) ?_ ?_ (by simp)
    · simp
    · refine⟨.inl rfl,.inl rfl,.cellsL ?_,trivial⟩
      simp
      exact Wk.fresh _ _ _ 0 rfl
  rintro⟨j,s,out⟩ ⟨i1,i2,i3⟩
  simp only at i1 i2 i3
  have hol:(out.map Rep.to).length=out.length:=by simp
  have i3l:=congrArg List.length i3
  rw[List.length_append] at i3l
  by_cases hj:j<g.length
  · have w1:IntKind.i64.wrap ((j:Int)+1)=(j:Int)+1:=wrap_in (by omega) (by omega)
    rw[List.drop_eq_getElem_cons hj] at i2 i3 i3l
    obtain⟨o,d,p,e,hc,k1,k2,k3,k4⟩:=i2
    have hgj:g[j]?=some ⟨o,d,p,e⟩:=by rw[List.getElem?_eq_getElem hj,hc]
    simp only[hc,bLines,Int.toNat_natCast,List.length_append] at i3 i3l
    have t1:∀(z:List Str) (a b:Nat),List.take b (List.drop a (z.map Rep.to))=(ct z a b).map Rep.to:=fun z a b=>by unfold ct;rw[List.map_take,List.map_drop]
    have t2:=t1 x s (o-s)
    have t3:=t1 x o d
    have t4:=t1 y p e
    have w2:IntKind.i64.wrap ((o:Int)+d)=((o+d:Nat):Int):=by rw[wrap_in (by omega) (by omega)];omega
    have w3:IntKind.i64.wrap ((p:Int)+e)=((p+e:Nat):Int):=by rw[wrap_in (by omega) (by omega)];omega
    simp only[Int.natCast_add] at w2 w3
    generalize ct x s (o-s)=a1 at *
    generalize ct x o d=a2 at *
    generalize ct y p e=a3 at *
    simp only[tagL,List.length_map] at i3l
    have tl:∀(k:Int) (l:List Str),(tagL k l).length=l.length:=fun k l=>by simp[tagL]
    have e3:((o:Int)+d).toNat-o=d:=by omega
    have e4:((p:Int)+e).toNat-p=e:=by omega
    simp[hj,hgj,hc,w1,w2,w3,t2,t3,t4,e3,e4,k1,show o≤x.length by omega,eRCall,h1,tagD,tl]
    refine⟨by omega,⟨by omega,by omega⟩,by omega,⟨by omega,by omega⟩,⟨by omega,by omega⟩,Nxt.mk ⟨j+1,o+d,out++(tagL 32 a1++(tagL 45 a2++tagL 43 a3))⟩ (by simp only;omega) (by simp) (by simp[tl];omega) ⟨by simp only;omega,k4,by simpa using i3⟩⟩
  · obtain rfl:j=g.length:=by omega
    rw[List.drop_length] at i2 i3 i3l
    simp only[bLines] at i3 i3l
    obtain⟨k1,k2⟩:=i2
    have t1:List.take (t-s) (List.drop s (x.map Rep.to))=(ct x s (t-s)).map Rep.to:=by unfold ct;rw[List.map_take,List.map_drop]
    generalize ct x s (t-s)=a1 at *
    have tl:∀(k:Int) (l:List Str),(tagL k l).length=l.length:=fun k l=>by simp[tagL]
    rw[tl] at i3l
    rw[← i3]
    simp[k1,k2,t1,eRCall,h1,tagD,tl]
    omega
theorem fit_bOk {x y:List Str} {t:Nat} (ht:t≤x.length):∀{g:List ChangeT} {i j:Nat} {f:Bool} {i2 j2 s:Nat},FitS x y g i j f i2 j2→(∀c,g.head?=some c→(s:Int)≤c.old)→(g=[]→s≤t)→i2≤t →
    bOk x y g s t∧(bLines x y g s t).length≤(t-s)+(j2-j)
  | [],i,j,f,i2,j2,s,h,h1,h2,h3=>by
    refine⟨⟨h2 rfl,ht⟩,?_⟩
    simp only[bLines,tagL,List.length_map]
    rw[ct_len (by have:=h2 rfl;omega)]
    omega
  | c::r,i,j,f,i2,j2,s,h,h1,h2,h3=>by
    obtain⟨q,d,e,rfl,k2,k3,k4,k5,k6,k7⟩:=h
    have hs:=h1 _ rfl
    simp only at hs
    have he:=FitS.end k7
    have ih:=fit_bOk (s:=i+q+d) ht k7 (fun c' hc'=>by
      cases r with
      | nil=>simp at hc'
      | cons c2 r2 =>
        obtain⟨q',d',e',rfl,_⟩:=k7
        simp at hc'
        subst hc'
        simp only
        omega) (fun _=>by omega) h3
    refine⟨⟨i+q,d,j+q,e,rfl,by omega,k3,k4,ih.1⟩,?_⟩
    simp only[bLines,tagL,List.length_map,List.length_append,Int.toNat_natCast]
    rw[ct_len (by omega),ct_len (by omega),ct_len (by omega)]
    omega
theorem fit_count {x y:List Str}:∀{g:List ChangeT} {i j:Nat} {f:Bool} {i2 j2:Nat},FitS x y g i j f i2 j2→g.length+i+j≤i2+j2
  | [],i,j,f,i2,j2,h=>by obtain⟨rfl,rfl,_,_⟩:=h;simp
  | c::r,i,j,f,i2,j2,h=>by
    obtain⟨q,d,e,rfl,k2,k3,k4,k5,k6,k7⟩:=h
    have:=fit_count k7
    simp only[List.length_cons]
    omega
theorem slice_fit {x y:List Str} {l:List ChangeT} {i' j':Nat} (h:FitS x y l 0 0 true i' j') {f k:Nat} (hf:f<k) (hk:k≤l.length) :
    ∃i1 j1 fl i2 j2,FitS x y ((l.drop f).take (k-f)) i1 j1 fl i2 j2∧(i2:Int)=(l.getD (k-1) default).old+(l.getD (k-1) default).oldLen:=by
  have e1:l=l.take f++((l.drop f).take (k-f)++(l.drop f).drop (k-f)):=by rw[List.take_append_drop,List.take_append_drop]
  rw[e1] at h
  obtain⟨i1,j1,_,h2⟩:=FitS.split h
  obtain⟨i2,j2,h3,_⟩:=FitS.split h2
  refine⟨i1,j1,_,i2,j2,h3,?_⟩
  have hk1:k-1-f<(l.drop f).length:=by simp;omega
  have e2:(l.drop f).take (k-f)=(l.drop f).take (k-1-f)++[l[k-1]]:=by
    rw[show k-f=(k-1-f)+1 by omega,List.take_succ_eq_append_getElem hk1]
    congr 2
    rw[List.getElem_drop]
    congr 1
    omega
  rw[e2] at h3
  obtain⟨i3,j3,_,h5⟩:=FitS.split h3
  obtain⟨q,d,e,hc,_,_,_,_,_,h6⟩:=h5
  obtain⟨rfl,_⟩:=h6
  rw[List.getD_eq_getElem?_getD,List.getElem?_eq_getElem (by omega),Option.getD_some,hc]
  simp
theorem grpH_mem {l:List ChangeT} {m ctx:Int}:∀(r:List ChangeT) (f i:Nat),i+r.length=l.length→f≤i→∀h,h∈grpH l m ctx r f i→∃f' k,h=closedV l f' k m ctx∧f'<k∧k≤l.length
  | [],f,i,_,_,h,hh=>by simp[grpH] at hh
  | c::r,f,i,hl,hf,h,hh=>by
    simp only[List.length_cons] at hl
    rw[grpH] at hh
    split at hh
    · rcases List.mem_cons.1 hh with rfl | hh
      · exact⟨f,i+1,rfl,by omega,by omega⟩
      · exact grpH_mem r (i+1) (i+1) (by omega) (Nat.le_refl _) h hh
    · exact grpH_mem r f (i+1) (by omega) (by omega) h hh
theorem bLines_mem {x y:List Str}:∀{g:List ChangeT} {s t:Nat} {u:PLineT},u∈bLines x y g s t→(u.text∈x∨u.text∈y)∧0≤u.kind∧u.kind<256:=by
  have tg:∀{k:Int} {l:List Str} {u:PLineT},u∈tagL k l→u.kind=k∧u.text∈l:=fun {k l u} h=>by
    obtain⟨v,hv,rfl⟩:=List.mem_map.1 h
    exact⟨rfl,hv⟩
  intro g
  induction g with
  | nil =>
    intro s t u h
    obtain⟨h1,h2⟩:=tg h
    exact⟨.inl (ct_mem h2),by omega,by omega⟩
  | cons c r ih =>
    intro s t u h
    rw[bLines] at h
    rcases List.mem_append.1 h with h | h
    · obtain⟨h1,h2⟩:=tg h
      exact⟨.inl (ct_mem h2),by omega,by omega⟩
    · rcases List.mem_append.1 h with h | h
      · obtain⟨h1,h2⟩:=tg h
        exact⟨.inl (ct_mem h2),by omega,by omega⟩
      · rcases List.mem_append.1 h with h | h
        · obtain⟨h1,h2⟩:=tg h
          exact⟨.inr (ct_mem h2),by omega,by omega⟩
        · exact ih h
def MkOk (a b:Str):Prop:=checkT a=0∧checkT b=0∧(linesV a).length≤20∧(linesV b).length≤20∧a.length≤100∧b.length≤100
theorem line_le {s u:Str} (h:u∈linesV s):u.length≤s.length:=by
  have:=lines_flat s
  rw[← this]
  exact (List.sublist_flatten_of_mem h).length_le
theorem hunk_arg {a b:Str} (h:MkOk a b) (ctx:Nat) (down:Bool) {u:HunkT} (hu:u∈grpH (chgP a b down) (linesV a).length ctx (chgP a b down) 0 0) :
    hunkArg u (chgP a b down) (linesV a) (linesV b)∧(buildV (chgP a b down) (linesV a) (linesV b) u).lines.length≤40:=by
  obtain⟨ha,hb,h1,h2,h3,h4⟩:=h
  obtain⟨i',j',k1,k2⟩:=chg_lines ha hb down
  have kc:=fit_count k1
  have ke:=FitS.end k1
  generalize chgP a b down=l at *
  generalize linesV a=x at *
  generalize linesV b=y at *
  obtain⟨f,k,rfl,hf,hk⟩:=grpH_mem l 0 0 (by simp) (Nat.le_refl _) u hu
  obtain⟨i1,j1,fl,i2,j2,m1,m2⟩:=slice_fit k1 hf hk
  have me:=FitS.end m1
  have hfl:f<l.length:=by omega
  have hhd:((l.drop f).take (k-f)).head?=some (l.getD f default):=by
    rw[List.drop_eq_getElem_cons hfl,show k-f=(k-f-1)+1 by omega,List.take_succ_cons,List.head?_cons]
    simp[List.getD,hfl]
  obtain⟨o,ho,hol⟩:∃o:Nat,(l.getD f default).old=o∧o≤i2:=by
    cases hg:(l.drop f).take (k-f) with
    | nil=>rw[hg] at hhd;simp at hhd
    | cons c r =>
      rw[hg] at hhd m1
      simp at hhd
      subst hhd
      obtain⟨q,d,e,hc,_,_,_,_,_,h7⟩:=m1
      have:=FitS.end h7
      exact⟨i1+q,by rw[List.getD_eq_getElem?_getD,hc],by omega⟩
  have hmin:min (ctx:Int) (l.getD f default).old=(min ctx o:Nat):=by rw[ho];omega
  have hmin2:min (ctx:Int) (x.length-(l.getD (k-1) default).old-(l.getD (k-1) default).oldLen)=(min ctx (x.length-i2):Nat):=by omega
  have e1:(closedV l f k x.length ctx).ofr=(o-min ctx o:Nat):=by
    simp only[closedV,hmin,ho]
    omega
  have e2:(closedV l f k x.length ctx).oto=(i2+min ctx (x.length-i2):Nat):=by
    simp only[closedV,hmin2]
    omega
  have hb:=fit_bOk (t:=i2+min ctx (x.length-i2)) (s:=o-min ctx o) (by omega) m1 (fun c hc=>by
    rw[hhd] at hc
    simp only[Option.some.injEq] at hc
    rw[← hc,ho]
    omega) (fun _=>by omega) (by omega)
  have e3:(closedV l f k x.length ctx).first=f:=rfl
  have e4:(closedV l f k x.length ctx).last=k:=rfl
  have e5:((k:Int)-(f:Int)).toNat=k-f:=by omega
  refine⟨?_,?_⟩
  · refine⟨by rw[e3];omega,by rw[e3,e4];omega,by rw[e4];omega,by rw[e1];omega,by rw[e1];omega,by rw[e2];omega,by rw[e2];omega,by omega,by omega,by omega,?_⟩
    rw[e1,e2,e3,e4,e5,Int.toNat_natCast,Int.toNat_natCast,Int.toNat_natCast]
    exact hb.1
  · simp only[buildV]
    rw[e1,e2,e3,e4,e5,Int.toNat_natCast,Int.toNat_natCast,Int.toNat_natCast]
    have:=hb.2
    omega
theorem nsum_le {l:List Nat} {B:Nat} (h:∀x,x∈l→x≤B):l.sum≤l.length * B:=by
  induction l with
  | nil=>simp
  | cons a r ih =>
    have h1:=h a (by simp)
    have h2:=ih fun x hx=>h x (by simp[hx])
    simp only[List.sum_cons,List.length_cons,Nat.succ_mul]
    omega
theorem made_small {a b:Str} (h:MkOk a b) (ctx:Nat) (down:Bool):(hunksP a b ctx down).length≤40∧hunksM (hunksP a b ctx down)≤300000∧∀u,u∈hunksP a b ctx down→HunkOk u:=by
  have h0:=h
  obtain⟨ha,hb,h1,h2,h3,h4⟩:=h
  obtain⟨i',j',k1,k2⟩:=chg_lines ha hb down
  have kc:=fit_count k1
  have ke:=FitS.end k1
  have hl:=grpH_len (chgP a b down) (linesV a).length ctx (chgP a b down) 0 0
  have hn:(hunksP a b ctx down).length≤40:=by unfold hunksP;rw[List.length_map];omega
  have hln:∀{u:PHunkT},u∈hunksP a b ctx down→u.lines.length≤40∧∀v,v∈u.lines→v.text.length≤100∧0≤v.kind∧v.kind<256:=fun {u} hu=>by
    unfold hunksP at hu
    obtain⟨w,hw,rfl⟩:=List.mem_map.1 hu
    refine⟨(hunk_arg h0 ctx down hw).2,fun v hv=>?_⟩
    obtain⟨m1,m2⟩:=bLines_mem hv
    refine⟨?_,m2⟩
    rcases m1 with m1 | m1
    · have:=line_le m1;omega
    · have:=line_le m1;omega
  refine⟨hn,?_,fun u hu=>⟨by have:=(hln hu).1;omega,fun v hv=>by have:=(hln hu).2 v hv;omega⟩⟩
  unfold hunksM
  have:=nsum_le (l:=(hunksP a b ctx down).map hunkM) (B:=5400) (fun z hz=>by
    obtain⟨u,hu,rfl⟩:=List.mem_map.1 hz
    obtain⟨n1,n2⟩:=hln hu
    unfold hunkM
    have:=nsum_le (l:=u.lines.map lineM) (B:=130) (fun z hz=>by
      obtain⟨v,hv,rfl⟩:=List.mem_map.1 hz
      unfold lineM
      have:=(n2 v hv).1
      omega)
    rw[List.length_map] at this
    have:u.lines.length * 130≤40 * 130:=Nat.mul_le_mul_right _ n1
    omega)
  rw[List.length_map] at this
  have:(hunksP a b ctx down).length * 5400≤40 * 5400:=Nat.mul_le_mul_right _ hn
  omega
def madeP (o n a b:Str) (ctx:Nat) (down:Bool):PatchT:=⟨o,n,hunksP a b ctx down⟩
theorem names_len (p:PatchT):(namesW p).length≤4 * p.oldName.length+4 * p.newName.length+40:=by
  have h1:=quote_len p.oldName
  have h2:=quote_len p.newName
  simp only[namesW,List.length_append,List.length_cons,List.length_nil]
  omega
theorem made_good {o n a b:Str} (ho:namedB o=true) (hn:namedB n=true) (h:MkOk a b) (ctx:Nat) (down:Bool) :
    PatOk (madeP o n a b ctx down)∧(writV (madeP o n a b ctx down)).length≤400000∧chkP (madeP o n a b ctx down)=0∧applyV (madeP o n a b ctx down) a=(b,0):=by
  obtain⟨s1,s2,s3⟩:=made_small h ctx down
  obtain⟨ha,hb,h1,h2,h3,h4⟩:=h
  obtain⟨m1,m2⟩:=made_ok ha hb ctx down
  have hol:o.length≤200:=by simp[namedB] at ho;exact ho.2
  have hnl:n.length≤200:=by simp[namedB] at hn;exact hn.2
  have hw:(writV (madeP o n a b ctx down)).length≤400000:=by
    have w1:=names_len (madeP o n a b ctx down)
    have w2:=hunksW_le (madeP o n a b ctx down).hunks
    have w3:hunksM (madeP o n a b ctx down).hunks≤300000:=s2
    have w4:(madeP o n a b ctx down).oldName=o:=rfl
    have w5:(madeP o n a b ctx down).newName=n:=rfl
    rw[w4,w5] at w1
    unfold writV
    rw[List.length_append]
    omega
  have hc:chkP (madeP o n a b ctx down)=0:=chkP_zero.2 ⟨ho,hn,m1,by omega⟩
  refine⟨⟨by simp only[madeP];omega,by simp only[madeP];omega,by omega,by simp only[madeP];omega,s3⟩,hw,hc,?_⟩
  have hj:=joinP_lines hb
  unfold applyV
  rw[if_neg (by rw[hc];simp),if_neg (by rw[ha];simp)]
  show applyO (applyL (linesV a) 0 [] (hunksP a b ctx down))=(b,0)
  rw[m2]
  exact hj
@[simp] def S_slide_Down:List D→Prop × D:=spec3 (α:=List ChangeT) (β:=List Int) (γ:=List Int) (fun l a b=>fitsV l a b=true) (fun l a b=>.tup [Rep.to (dwnV l a b),.int .i64 0])
theorem bld_one (l:List ChangeT) (x y:List Str) (H:List HunkT) {j:Nat} (hj:j<H.length):((H.take j).map (buildV l x y)).map Rep.to++[Rep.to (buildV l x y H[j])]=((H.take (j+1)).map (buildV l x y)).map Rep.to:=by
  rw[List.take_succ_eq_append_getElem hj,List.map_append,List.map_append]
  rfl
def bldD (l:List ChangeT) (x y:List Str) (H:List HunkT) (j:Nat):List D:=((H.take j).map (buildV l x y)).map Rep.to
theorem bldD_len (l:List ChangeT) (x y:List Str) (H:List HunkT) {j:Nat} (hj:j≤H.length):(bldD l x y H j).length=j:=by simp[bldD];omega
theorem bldD_one (l:List ChangeT) (x y:List Str) (H:List HunkT) {j:Nat} (hj:j<H.length):bldD l x y H j++[Rep.to (buildV l x y H[j])]=bldD l x y H (j+1):=bld_one l x y H hj
theorem bldD_all (l:List ChangeT) (x y:List Str) (H:List HunkT):bldD l x y H H.length=(H.map (buildV l x y)).map Rep.to:=by simp[bldD]
theorem bldD_zero (l:List ChangeT) (x y:List Str) (H:List HunkT):bldD l x y H 0=[]:=rfl
@[simp] def S_unified_Make:List D→Prop × D:=spec6 (α:=Str) (β:=Str) (γ:=Str) (δ:=Str) (ε:=Int) (ζ:=Bool) (fun o n a b ctx _=>namedB o=true∧namedB n=true∧MkOk a b∧0≤ctx∧ctx≤1000)
  (fun o n a b ctx down=>.tup [Rep.to (madeP o n a b ctx.toNat down),.int .i64 0])
theorem ct_unified_Make {P:Program} {f g1 g2 g3 g4 g5 g6 g7 g8:Nat} {G:Gam} (h:CodeOf P f 6 26 [32006,7] (x_unified_Make g1 g2 g3 g4 g5 g6 g7 g8)) (hG:GamOk P G) (h1:G.find g1=some S_unified_named) (h2:G.find g2=some S_text_Split) (h3:G.find g3=some S_intern_Ids) (h4:G.find g4=some S_shortest_Script)
    (h5:G.find g5=some S_slide_Down) (h6:G.find g6=some S_hunk_Group) (h7:G.find g7=some S_unified_build) (h8:G.find g8=some S_unified_size):Has P f S_unified_Make:=h.has6 hG fun o n a b ctx down hp=>by
  obtain⟨p1,p2,p3,p4,p5⟩:=hp
  obtain⟨ctx,rfl⟩:=Int.eq_ofNat_of_zero_le p4
  obtain⟨q1,q2,q3,q4⟩:=made_good p1 p2 p3 ctx down
  have hha:=fun {u} hu=>(hunk_arg p3 ctx down (u:=u) hu).1
  have hsm:=(made_small p3 ctx down).1
  obtain⟨k1,k2,k3,k4,k5,k6⟩:=p3
  have e1:splitD a=.tup [Rep.to (linesV a),.int .i64 0]:=if_pos k1
  have e2:splitD b=.tup [Rep.to (linesV b),.int .i64 0]:=if_pos k2
  have hi0:=idp2_l0 a b
  have hi1:=idp2_l1 a b
  have hsc:=script_fits (a:=(idp2 a b).getD 0 []) (b:=(idp2 a b).getD 1 []) (by omega) (by omega)
  have hck:=(chg_fit k1 k2 down).check (by omega) (by omega)
  rw[hi0,hi1] at hck
  have hl:¬longV ((idp2 a b).getD 0 []) ((idp2 a b).getD 1 []):=by unfold longV;omega
  have hsm2:smallL [linesV a,linesV b]:=⟨by simp,by simp;omega⟩
  have hids:idsV [linesV a,linesV b]=[(idp2 a b).getD 0 [],(idp2 a b).getD 1 []]:=rfl
  have hscr:scriptV ((idp2 a b).getD 0 []) ((idp2 a b).getD 1 [])=scrP a b:=rfl
  rw[hscr] at hsc
  have hmp:madeP o n a b ctx down=⟨o,n,(grpH (chgP a b down) (linesV a).length ctx (chgP a b down) 0 0).map (buildV (chgP a b down) (linesV a) (linesV b))⟩:=rfl
  have hml:(grpH (chgP a b down) (linesV a).length ctx (chgP a b down) 0 0).length≤40:=by unfold hunksP at hsm;rwa [List.length_map] at hsm
  simp only[Int.toNat_natCast]
  rw[hmp] at q1 q2 ⊢
  have hchg:(if down=true then dwnV (scrP a b) ((idp2 a b).getD 0 []) ((idp2 a b).getD 1 []) else scrP a b)=chgP a b down:=rfl
  generalize hL:chgP a b down=L at *
  generalize hH:grpH L (linesV a).length ctx L 0 0=H at *
  generalize (idp2 a b).getD 0 []=I0 at *
  generalize (idp2 a b).getD 1 []=I1 at *
  generalize scrP a b=S at *
  generalize hX:linesV a=x at *
  generalize hY:linesV b=y at *
  have main:vc G 0 (x_unified_Make g1 g2 g3 g4 g5 g6 g7 g8) (Fin [32006,7] (D.tup [Rep.to (⟨o,n,H.map (buildV L x y)⟩:PatchT),.int .i64 0])) (start [Rep.to o,Rep.to n,Rep.to a,Rep.to b,Rep.to (ctx:Int),Rep.to down] 26) []:=by
    cases down
    case' false =>
      simp at hchg
      have hchg:=hchg.symm
      subst hchg
      simp[x_unified_Make,h1,h2,p1,p2,e1,e2,h3,hsm2,hids,h4,hl,hscr,h6,hck,hH,show a.length≤4194304 by omega,show b.length≤4194304 by omega,show I0.length≤1048576 by omega,show I1.length≤1048576 by omega]
      refine⟨by omega,?_⟩
    case' true =>
      simp at hchg
      simp[x_unified_Make,h1,h2,p1,p2,e1,e2,h3,hsm2,hids,h4,hl,hscr,h5,hsc,hchg,h6,hck,hH,show a.length≤4194304 by omega,show b.length≤4194304 by omega,show I0.length≤1048576 by omega,show I1.length≤1048576 by omega]
      refine⟨by omega,?_⟩
    all_goals
      refine vc_lpR (σ:=Nat) (fun i=>i≤H.length) (fun i=>H.length-i)
        (fun i=>[.any,.any,.any,.any,.any,.any,.ref 0 0 0 0,.any,.d (.sl 1 (x.map Rep.to)),.any,.d (.sl 1 (y.map Rep.to)),.any,.d (.sl 4 (L.map Rep.to)),.any,.ref 1 0 0 0,.any,.any,.any,.any,.any,.any,.d (.sl 6 (H.map Rep.to)),.d (.int .i64 H.length),.d (.int .i64 i),.any,.any])
        (fun i=>[.cells 0 3 [.d (.agg [.str [],.str [],.nilsl])],.cells 0 3 [.agg [.d (.str o),.d (.str n),.gr 2 3 (bldD L x y H i)]],.tip i]) 0 ?_ (by simp) ?_
      · refine Re.wn (s':=[.cells 0 3 [.d (.agg [.str [],.str [],.nilsl])],.cells 0 3 [.agg [.d (.str o),.d (.str n),.gr 2 3 []]]]) [false,false,false,false,false,false,true,false,true,false,true,false,true,false,true,false,false,false,false,false,false,true,true,true] [.tip 0] (by simp) (by simp) ?_ ?_ (by simp[bldD_zero])
        · simp
        · refine⟨.inl rfl,.cellsL ?_,trivial⟩
          simp
          exact Wk.fresh _ _ _ 0 rfl
      intro i i1
      have hbl:=bldD_len L x y H i1
      by_cases hi:i<H.length
      · have w1:IntKind.i64.wrap ((i:Int)+1)=(i:Int)+1:=wrap_in (by omega) (by omega)
        have ha:=hha (List.getElem_mem hi)
        have hs:=bldD_one L x y H hi
        simp only[to_PHunk] at hs
        have hae:hunkArg ⟨H[i].first,H[i].last,H[i].ofr,H[i].oto,H[i].nfr,H[i].nto⟩ L x y:=ha
        have hbe:buildV L x y ⟨H[i].first,H[i].last,H[i].ofr,H[i].oto,H[i].nfr,H[i].nto⟩=buildV L x y H[i]:=rfl
        simp[hi,getD_map,h7,hae,hbe,hbl,w1,hs]
        refine⟨by unfold room;omega,Nxt.mk (i+1) (by omega) (by simp) (by simp) (by omega)⟩
      · obtain rfl:i=H.length:=by omega
        rw[bldD_all]
        simp[h8,q1]
        omega
  exact main
def spoilB (c:Int):UInt8:=UInt8.ofNat (IntKind.u8.wrap c).toNat
def spoilI (s:Str) (at':Int):Nat:=(modV at' (s.length+1)).toNat
def spoilV (s:Str) (what at' c:Int):Str :=
  if modV what 4=0 then s.take (spoilI s at')++(spoilB c::s.drop (spoilI s at')) else
    if modV what 4=1 then s.take (spoilI s at')++s.drop (min (spoilI s at'+1) s.length) else
      if modV what 4=2 then s.take (spoilI s at')++(spoilB c::s.drop (min (spoilI s at'+1) s.length)) else s
theorem spoil_len (s:Str) (what at' c:Int):(spoilV s what at' c).length≤s.length+1:=by
  unfold spoilV
  split
  · simp;omega
  · split
    · simp;omega
    · split
      · simp;omega
      · omega
@[simp] def S_gen_Spoiled:List D→Prop × D:=spec4 (α:=Str) (β:=Int) (γ:=Int) (δ:=Int) (fun s _ _ _=>s.length≤1048576) (fun s w a c=>.str (spoilV s w a c))
theorem ct_gen_Spoiled {P:Program} {f g1:Nat} {G:Gam} (h:CodeOf P f 4 10 [4] (x_gen_Spoiled g1)) (hG:GamOk P G) (h1:G.find g1=some S_gen_Mod):Has P f S_gen_Spoiled:=h.has4 hG fun s w a c hp=>by
  have w1:IntKind.i64.wrap ((s.length:Int)+1)=(s.length:Int)+1:=wrap_in (by omega) (by omega)
  obtain⟨m1,m2⟩:=modV_lt a (n:=(s.length:Int)+1) (by omega)
  obtain⟨k1,k2⟩:=modV_lt w (n:=4) (by omega)
  obtain⟨i,hi⟩:=Int.eq_ofNat_of_zero_le m1
  have hI:spoilI s a=i:=by unfold spoilI;rw[hi];rfl
  have hil:i≤s.length:=by omega
  have w2:IntKind.i64.wrap ((i:Int)+1)=(i:Int)+1:=wrap_in (by omega) (by omega)
  have hmin:min ((i:Int)+1) (s.length:Int)=((min (i+1) s.length:Nat):Int):=by omega
  have hb:spoilB c=UInt8.ofNat (IntKind.u8.wrap c).toNat:=rfl
  generalize hsv:spoilV s w a c=R
  unfold spoilV at hsv
  rw[hI,hb] at hsv
  generalize hk:modV w 4=k at *
  have hb2:eB2s [] (.d (.sl 1 [.int .u8 (IntKind.u8.wrap c)]))=⟨True,[],.d (.str [UInt8.ofNat (IntKind.u8.wrap c).toNat])⟩:=by
    simp[eB2s,A.notStr,src,allU8,u8s,borFp]
  have htk:s.drop i=List.take (s.length-i) (s.drop i):=by rw[List.take_of_length_le (by simp)]
  by_cases c0:k=0
  · rw[if_pos c0] at hsv
    subst c0
    simp[x_gen_Spoiled,h1,w1,hk,hi,hil,hb2]
    refine⟨by omega,by omega,by omega,?_⟩
    rw[← htk]
    exact hsv
  · rw[if_neg c0] at hsv
    generalize hm:min (i+1) s.length=m at *
    have hmn:(min ((i:Int)+1) (s.length:Int))=(m:Int):=by omega
    have hml:m≤s.length:=by omega
    have htm:s.drop m=List.take (s.length-m) (s.drop m):=by rw[List.take_of_length_le (by simp)]
    by_cases c1:k=1
    · rw[if_pos c1] at hsv
      subst c1
      simp[x_gen_Spoiled,h1,w1,hk,hi,hil,hb2,w2,hmn,hml]
      refine⟨⟨by omega,by omega⟩,by omega,?_⟩
      rw[← htm]
      exact hsv
    · rw[if_neg c1] at hsv
      by_cases c2:k=2
      · rw[if_pos c2] at hsv
        subst c2
        simp[x_gen_Spoiled,h1,w1,hk,hi,hil,hb2,w2,hmn,hml]
        refine⟨⟨by omega,by omega⟩,by omega,by omega,?_⟩
        rw[← htm]
        exact hsv
      · rw[if_neg c2] at hsv
        simp[x_gen_Spoiled,h1,w1,hk,hi,hil,hb2,w2,hmn,hml,c0,c1,c2]
        exact⟨⟨by omega,by omega⟩,hsv⟩
theorem readP_pat {s:Str} (hs:s.length≤1048576) (h:(readP s).2=0):PatOk (readP s).1:=by
  have hll:=linesS_len s
  unfold readP at h ⊢
  split
  · rename_i c;rw[if_pos c] at h;simp at h
  · rename_i c
    rw[if_neg c] at h
    split
    · rename_i c2;rw[if_pos c2] at h;simp at h
    · rename_i c2
      rw[if_neg c2] at h
      cases hp:parseV (linesS s).1 with
      | none=>rw[hp] at h;simp at h
      | some p =>
        rw[hp] at h
        simp only at h ⊢
        by_cases c3:chkP p=0∧writV p=s
        · rw[if_pos c3];exact parseV_ok hp (by omega) (by omega)
        · rw[if_neg c3] at h;simp at h
theorem PatOk.rev {p:PatchT} (h:PatOk p):PatOk (revP p):=by
  obtain⟨h1,h2,h3,h4,h5⟩:=h
  refine⟨h2,h1,by rw[writ_len];exact h3,by simp only[revP,List.length_map];exact h4,fun u hu=>?_⟩
  simp only[revP] at hu
  obtain⟨v,hv,rfl⟩:=List.mem_map.1 hu
  obtain⟨k1,k2⟩:=h5 v hv
  refine⟨by simp only[revH,List.length_map];exact k1,fun x hx=>?_⟩
  simp only[revH] at hx
  obtain⟨y,hy,rfl⟩:=List.mem_map.1 hx
  obtain⟨m1,m2,m3⟩:=k2 y hy
  refine⟨m1,?_,?_⟩
  · simp only[revL,swapK]
    split
    · omega
    · split <;> omega
  · simp only[revL,swapK]
    split
    · omega
    · split <;> omega
theorem PatS.rev {p:PatchT} (h:PatS p):PatS (revP p):=⟨h.1.rev,by rw[writ_len];exact h.2⟩
theorem apply_len {p:PatchT} {b y:Str} (h:applyV p b=(y,0)):y.length≤1048576:=by
  unfold applyV at h
  split at h
  · rw[← (Prod.mk.inj h).1];simp
  · split at h
    · rw[← (Prod.mk.inj h).1];simp
    · cases hl:applyL (linesV b) 0 [] p.hunks with
      | none=>rw[hl] at h;rw[← (Prod.mk.inj h).1];simp
      | some l =>
        rw[hl] at h
        have h:joinP l=(y,0):=h
        unfold joinP at h
        split at h
        · split at h
          · rename_i k
            rw[← (Prod.mk.inj h).1]
            have:l.flatten.length=flen l:=rfl
            omega
          · rw[← (Prod.mk.inj h).1];simp
        · rw[← (Prod.mk.inj h).1];simp
theorem read_law {s:Str} (hs:s.length≤1048576) (h:(readP s).2=0):PatS (readP s).1∧fmtP (readP s).1=.tup [.str s,.int .i64 0]∧chkP (readP s).1=0:=by
  obtain⟨h1,h2⟩:=readP_ok h
  refine⟨⟨readP_pat hs h,by rw[h2];omega⟩,?_,h1⟩
  unfold fmtP
  rw[if_pos h1,h2]
theorem made_law {o n a b:Str} (ho:namedB o=true) (hn:namedB n=true) (h:MkOk a b) (ctx:Nat) (down:Bool) :
    PatS (madeP o n a b ctx down)∧fmtP (madeP o n a b ctx down)=.tup [.str (writV (madeP o n a b ctx down)),.int .i64 0]∧revD (madeP o n a b ctx down)=.tup [Rep.to (revP (madeP o n a b ctx down)),.int .i64 0] ∧
      applyV (madeP o n a b ctx down) a=(b,0)∧applyV (revP (madeP o n a b ctx down)) b=(a,0):=by
  obtain⟨h1,h2,h3,h4⟩:=made_good ho hn h ctx down
  refine⟨⟨h1,by omega⟩,?_,?_,h4,(apply_back h3 h4).2⟩
  · unfold fmtP;rw[if_pos h3]
  · unfold revD;rw[if_pos h3]
def wakeS:Str:=[45,45,45,32,120,10,43,43,43,32,120,10,64,64,32,45,49,32,43,49,32,64,64,10,45,97,10,43,98,10]
def wakeP:PatchT:=⟨[120],[120],[⟨0,0,[⟨45,[97,10]⟩,⟨43,[98,10]⟩]⟩]⟩
theorem wake_read:readP wakeS=(wakeP,0):=by decide +kernel
theorem wake_apply:applyV wakeP [97,10]=([98,10],0):=by decide +kernel
theorem wake_ok:PatS wakeP:=by
  have h:=read_law (s:=wakeS) (by decide) (by rw[wake_read])
  rw[wake_read] at h
  exact h.1
@[simp] def S_top_wake:List D→Prop × D:=spec0 True (.bool true)
theorem ct_top_wake {P:Program} {f g1 g2:Nat} {G:Gam} (h:CodeOf P f 0 5 [0] (x_top_wake g1 g2)) (hG:GamOk P G) (h1:G.find g1=some S_strict_Parse) (h2:G.find g2=some S_patch_Apply):Has P f S_top_wake:=h.has0 hG fun _=>by
  have hr:readD [45,45,45,32,120,10,43,43,43,32,120,10,64,64,32,45,49,32,43,49,32,64,64,10,45,97,10,43,98,10]=.tup [Rep.to wakeP,.int .i64 0]:=by
    show D.tup [Rep.to (readP wakeS).1,.int .i64 (readP wakeS).2]=_
    rw[wake_read]
  have hw:=wake_ok
  have ha:=wake_apply
  generalize wakeP=p at *
  have hpe:PatS ⟨p.oldName,p.newName,p.hunks⟩:=hw
  have hae:applyV ⟨p.oldName,p.newName,p.hunks⟩ [97,10]=([98,10],0):=ha
  simp[x_top_wake,h1,hr,h2,hpe,hae]
@[simp] def S_top_TopReverses:List D→Prop × D:=spec7 (α:=Str) (β:=Str) (γ:=List Int) (δ:=Int) (ε:=Int) (ζ:=Int) (η:=Int) (fun _ _ raw _ _ _ _=>raw.length≤9223372036854775807) (fun _ _ _ _ _ _ _=>.bool true)
theorem ct_top_TopReverses {P:Program} {f g1 g2 g3 g4 g5 g6 g7 g8 g9 g10:Nat} {G:Gam} (h:CodeOf P f 7 36 [7] (x_top_TopReverses g1 g2 g3 g4 g5 g6 g7 g8 g9 g10)) (hG:GamOk P G) (h1:G.find g1=some S_top_wake) (h2:G.find g2=some S_gen_Blob) (h3:G.find g3=some S_gen_Near) (h4:G.find g4=some S_gen_Mod)
    (h5:G.find g5=some S_unified_Make) (h6:G.find g6=some S_unified_Format) (h7:G.find g7=some S_gen_Spoiled) (h8:G.find g8=some S_strict_Parse) (h9:G.find g9=some S_patch_Apply) (h10:G.find g10=some S_patch_Reverse):Has P f S_top_TopReverses:=h.has7 hG fun s blob raw context what at' c p1=>by
  by_cases c1:120<(s.length:Int)
  · simp[x_top_TopReverses,h1,c1]
  by_cases c2:60<(blob.length:Int)
  · simp[x_top_TopReverses,h1,c1,c2]
  have b1:=(blobV_good raw 0 5 (n:=8) (by omega))
  have b2:=lines_blob raw 0 5 (n:=8) (by omega)
  have b3:=nearV_good (blobV raw 0 8 5) raw 100
  have b4:=nearV_good (blobV raw 0 8 5) raw 300
  obtain⟨m1,m2⟩:=modV_lt context (n:=4) (by omega)
  generalize hA:blobV raw 0 8 5=A at *
  generalize hB:nearV A raw 100=B at *
  generalize hC:nearV A raw 300=C at *
  generalize hm:modV context 4=m at *
  have hmk:MkOk A B:=by
    have lc:∀s:Str,(linesV s).length≤s.count 10+1:=fun s=>by rw[linesV_len];split <;> omega
    have a1:=lc A
    have a2:=lc B
    have ck:∀s:Str,s.length≤200→checkT s=0:=fun s h=>check_of (by omega) (by have:s.count 10≤s.length:=List.count_le_length;omega)
    exact⟨ck _ (by omega),ck _ (by omega),by omega,by omega,by omega,by omega⟩
  obtain⟨q1,q2,q3,q4,q5⟩:=made_law (o:=[111]) (n:=[110]) (by decide) (by decide) hmk m.toNat false
  obtain⟨q6,q7,_,_⟩:=made_good (o:=[111]) (n:=[110]) (by decide) (by decide) hmk m.toNat false
  generalize hP:madeP [111] [110] A B m.toNat false=p at *
  generalize hT:writV p=T at *
  have hSp:=spoil_len T what at' c
  generalize hS:spoilV T what at' c=S at *
  have hpe:PatOk ⟨p.oldName,p.newName,p.hunks⟩:=q6
  have hpf:fmtP ⟨p.oldName,p.newName,p.hunks⟩=.tup [.str T,.int .i64 0]:=q2
  have n1:namedB [111]=true:=by decide
  have n2:namedB [110]=true:=by decide
  obtain⟨TX,hTX⟩:∃TX,TX=[s,T,S,([45,45,45,32,97,10,43,43,43,32,98,10,64,64,32,45,49,32,43,49,32,64,64,10]:Str)++s]:=⟨_,rfl⟩
  obtain⟨BL,hBL⟩:∃BL,BL=[blob,A,C]:=⟨_,rfl⟩
  simp[x_top_TopReverses,c1,c2,h2,p1,hA,h3,hB,h4,hm,h5,hmk,n1,n2,hP,h6,hpe,hpf,h7,hS,hC]
  have hTd:D.sl 1 (TX.map Rep.to)=D.sl 1 [.str s,.str T,.str S,.str (([45,45,45,32,97,10,43,43,43,32,98,10,64,64,32,45,49,32,43,49,32,64,64,10]:Str)++s)]:=by rw[hTX];rfl
  have hBd:D.sl 1 (BL.map Rep.to)=D.sl 1 [.str blob,.str A,.str C]:=by rw[hBL];rfl
  have hTl:TX.length=4:=by rw[hTX];rfl
  have hBl:BL.length=3:=by rw[hBL];rfl
  have hTs:∀t,t∈TX→t.length≤1048576:=by
    rw[hTX]
    intro t ht
    simp at ht
    rcases ht with rfl | rfl | rfl | rfl
    · omega
    · omega
    · omega
    · simp;omega
  have hBs:∀t,t∈BL→t.length≤1048576:=by
    rw[hBL]
    intro t ht
    simp at ht
    rcases ht with rfl | rfl | rfl <;> omega
  refine⟨by omega,⟨by omega,by omega⟩,by omega,by omega,by omega,?_⟩
  clear hTX hBL
  refine vc_lp (σ:=Nat) (fun i=>i≤4) (fun i=>4-i)
    (fun i=>[.any,.any,.any,.any,.any,.any,.any,.any,.any,.any,.any,.any,.any,.any,.d (.sl 1 (TX.map Rep.to)),.d (.sl 1 (BL.map Rep.to)),.d (.int .i64 i),.any,.any,.any,.any,.any,.any,.any,.any,.any,.any,.any,.any,.any,.any,.any,.any,.any,.any,.any]) (fun _=>[]) 0 (by rw[hTd,hBd];simp) (by simp) (by simp) ?_
  intro i i1
  clear hTd hBd
  by_cases hi:i<4
  · have w1:IntKind.i64.wrap ((i:Int)+1)=(i:Int)+1:=wrap_in (by omega) (by omega)
    have hiT:i<TX.length:=by omega
    have ht:=hTs _ (List.getElem_mem hiT)
    have hg:TX[i]?=some TX[i]:=List.getElem?_eq_getElem hiT
    generalize hge:TX[i]=t at *
    have hr:readD t=.tup [Rep.to (readP t).1,.int .i64 (readP t).2]:=rfl
    have hlaw:=fun h=>read_law ht h
    have hback:=fun (b y:Str) (h:(readP t).2=0)=>apply_back (b:=b) (y:=y) (hlaw h).2.2
    generalize (readP t).1=q at *
    generalize (readP t).2=e at *
    by_cases he:e=0
    · obtain⟨k1,k2,k3⟩:=hlaw he
      subst he
      simp[show (i:Int)<4 by omega,hiT,hg,hge,h8,ht,hr]
      have kpe:PatOk ⟨q.oldName,q.newName,q.hunks⟩:=k1.1
      have kse:PatS ⟨q.oldName,q.newName,q.hunks⟩:=k1
      have kre:=k1.rev
      have kfe:fmtP ⟨q.oldName,q.newName,q.hunks⟩=.tup [.str t,.int .i64 0]:=k2
      have kve:revD ⟨q.oldName,q.newName,q.hunks⟩=.tup [Rep.to (revP q),.int .i64 0]:=by
        show revD q=_
        unfold revD
        rw[if_pos k3]
      have hbk:∀b y:Str,applyV q b=(y,0)→applyV (revP q) y=(b,0):=fun b y h=>(hback b y rfl h).2
      have hye:∀b,applyV ⟨q.oldName,q.newName,q.hunks⟩ b=applyV q b:=fun b=>rfl
      have hyl:∀b y:Str,applyV q b=(y,0)→y.length≤1048576:=fun b y h=>apply_len h
      simp[show (i:Int)<4 by omega,hiT,hg,hge,h8,ht,hr,h6,kpe,kfe]
      generalize revP q=r at *
      have rse:PatS ⟨r.oldName,r.newName,r.hunks⟩:=kre
      have hze:∀b,applyV ⟨r.oldName,r.newName,r.hunks⟩ b=applyV r b:=fun b=>rfl
      refine vc_lp (σ:=Nat) (fun k=>k≤3) (fun k=>3-k)
        (fun k=>[.any,.any,.any,.any,.any,.any,.any,.any,.any,.any,.any,.any,.any,.any,.d (.sl 1 (TX.map Rep.to)),.d (.sl 1 (BL.map Rep.to)),.d (.int .i64 i),.ref 0 0 0 0,.any,.any,.any,.d (.int .i64 k),.any,.any,.any,.any,.any,.any,.any,.any,.any,.any,.any,.any,.any,.any]) (fun _=>[.cells 0 3 [.d (.agg [.str q.oldName,.str q.newName,.sl 3 (q.hunks.map Rep.to)])]]) 0 (by simp) (by simp) (by simp) ?_
      intro k hk
      by_cases hk3:k<3
      · have w2:IntKind.i64.wrap ((k:Int)+1)=(k:Int)+1:=wrap_in (by omega) (by omega)
        have hkB:k<BL.length:=by omega
        have hb:=hBs _ (List.getElem_mem hkB)
        have hgb:BL[k]?=some BL[k]:=List.getElem?_eq_getElem hkB
        generalize hgbe:BL[k]=b at *
        obtain⟨y,e,hy⟩:∃y e,applyV q b=(y,e):=⟨_,_,rfl⟩
        by_cases he:e=0
        · subst he
          have z1:=hbk b y hy
          have z2:=hyl b y hy
          simp[show (k:Int)<3 by omega,hkB,hgb,hgbe,h9,kse,hb,hye,hy,h10,kpe,kve,rse,z2,hze,z1,w2]
          exact Nxt.mk (k+1) (by omega) (by simp) (by simp) (by omega)
        · simp[show (k:Int)<3 by omega,hkB,hgb,hgbe,h9,kse,hb,hye,hy,he,w2]
          exact Nxt.mk (k+1) (by omega) (by simp) (by simp) (by omega)
      · simp[show ¬(k:Int)<3 by omega,w1]
        exact Nxt.mk (i+1) (by omega) (by simp) (by simp) (by omega)
    · simp[show (i:Int)<4 by omega,hiT,hg,hge,h8,ht,hr,he,w1]
      exact Nxt.mk (i+1) (by omega) (by simp) (by simp) (by omega)
  · simp[show ¬(i:Int)<4 by omega,h1]
theorem top_TopReverses_pre (s:Str) (blob:Str) (raw:List Int) (context:Int) (what:Int) (at':Int) (c:Int) (w0:Arg.wf s) (w1:Arg.wf blob) (w2:Arg.wf raw) (w3:Arg.wf context) (w4:Arg.wf what) (w5:Arg.wf at') (w6:Arg.wf c):raw.length≤9223372036854775807:=by
  have:=str_wf w0
  have:=str_wf w1
  have:=len_wf w2
  omega
theorem blobOne_cnt (raw:List Int) {lines:Int} (hl:0≤lines) (p:Nat):(blobOne raw lines p).count 10≤2 * lines.toNat+1:=by
  unfold blobOne
  split
  · have:=(blobV_good raw (600+50 * p) 4 hl).2;omega
  · split
    · have:=(blobV_good raw 0 5 hl).2;omega
    · have h1:=(nearV_good (blobV raw 0 lines 5) raw (600+50 * p)).2
      have h2:=(blobV_good raw 0 5 hl).2
      have h3:=lines_blob raw 0 5 hl
      omega
def SmlB (s:Str):Prop:=checkT s=0∧(linesV s).length≤20∧s.length≤100
theorem sml_of {s:Str} (h1:s.length≤100) (h2:s.count 10≤19):SmlB s :=
  ⟨check_of (by omega) (by omega),by rw[linesV_len];split <;> omega,h1⟩
theorem mk_of {a b:Str} (ha:SmlB a) (hb:SmlB b):MkOk a b:=⟨ha.1,hb.1,ha.2.1,hb.2.1,ha.2.2,hb.2.2⟩
@[simp] def S_top_TopChains:List D→Prop × D:=spec3 (α:=List Int) (β:=Int) (γ:=Int) (fun raw _ _=>raw.length≤9223372036854775807) (fun _ _ _=>.bool true)
theorem ct_top_TopChains {P:Program} {f g1 g2 g3 g4 g5 g6:Nat} {G:Gam} (h:CodeOf P f 3 17 [3] (x_top_TopChains g1 g2 g3 g4 g5 g6)) (hG:GamOk P G) (h1:G.find g1=some S_gen_Mod) (h2:G.find g2=some S_gen_Blobs) (h3:G.find g3=some S_unified_Make) (h4:G.find g4=some S_patch_Reverse) (h5:G.find g5=some S_patch_Apply) (h6:G.find g6=some S_top_wake):Has P f S_top_TopChains:=h.has3 hG fun raw n context p1=>by
  obtain⟨m1,m2⟩:=modV_lt context (n:=4) (by omega)
  obtain⟨n1,n2⟩:=modV_lt n (n:=5) (by omega)
  obtain⟨u,hu⟩:=Int.eq_ofNat_of_zero_le n1
  generalize hm:modV context 4=m at *
  have w0:IntKind.i64.wrap (1+(u:Int))=((u+1:Nat):Int):=by rw[wrap_in (by omega) (by omega)];omega
  have w1:IntKind.i64.wrap ((u:Int)+1+1)=(u:Int)+1+1:=wrap_in (by omega) (by omega)
  have e1:((u:Int)+1+1).toNat=u+1+1:=by omega
  have hL:∀b,b∈blobsV raw (u+1+1) 6→SmlB b:=fun b hb=>by
    obtain⟨p,_,rfl⟩:=List.mem_map.1 hb
    have h1:=blobOne_len raw (lines:=6) (by omega) p
    have h2:=blobOne_cnt raw (lines:=6) (by omega) p
    exact sml_of (by omega) (by omega)
  have hLl:(blobsV raw (u+1+1) 6).length=u+2:=by simp[blobsV]
  generalize hB:blobsV raw (u+1+1) 6=L at *
  have g0:L[0]?=some L[0]:=List.getElem?_eq_getElem (by omega)
  have gn:L[u+1]?=some L[u+1]:=List.getElem?_eq_getElem (by omega)
  simp only[Int.natCast_add,Int.natCast_one] at w0
  have a1:namedB [111]=true:=by decide
  have a2:namedB [110]=true:=by decide
  simp[x_top_TopChains,h1,hu,w0,w1,e1,h2,p1,hB,hLl]
  obtain⟨gL,hgL⟩:∃gL:Nat→Str,∀k (h:k<L.length),L[k]=gL k:=⟨fun k=>L.getD k [],fun k h=>by simp[List.getD,h]⟩
  have hgS:∀k,k<L.length→SmlB (gL k):=fun k h=>by rw[← hgL k h];exact hL _ (List.getElem_mem h)
  refine⟨by omega,by omega,by omega,?_⟩
  refine vc_lp (σ:=Nat) (fun k=>k≤u+1) (fun k=>u+1-k)
    (fun k=>[.any,.d (.int .i64 ((u:Int)+1)),.d (.int .i64 context),.any,.d (.sl 1 (L.map Rep.to)),.d (.str (gL k)),.d (.str (gL (u+1-k))),.d (.int .i64 k),.any,.any,.any,.any,.any,.any,.any,.any,.any]) (fun _=>[]) 0 (by simp[hgL 0 (by omega),hgL (u+1) (by omega)]) (by simp) (by simp) ?_
  intro k hk
  by_cases hku:k<u+1
  · have w2:IntKind.i64.wrap ((k:Int)+1)=(k:Int)+1:=wrap_in (by omega) (by omega)
    have w3:IntKind.i64.wrap (u:Int)=(u:Int):=wrap_in (by omega) (by omega)
    have w4:IntKind.i64.wrap ((u:Int)-k)=(u:Int)-k:=wrap_in (by omega) (by omega)
    have w5:IntKind.i64.wrap ((u:Int)+1-k)=(u:Int)+1-k:=wrap_in (by omega) (by omega)
    have e2:((u:Int)-k).toNat=u-k:=by omega
    have e3:((u:Int)+1-k).toNat=u+1-k:=by omega
    have q1:=hgL k (by omega)
    have q2:=hgL (k+1) (by omega)
    have q3:=hgL (u-k) (by omega)
    have q4:=hgL (u+1-k) (by omega)
    have r1:L[k]?=some (gL k):=by rw[List.getElem?_eq_getElem (by omega),q1]
    have r2:L[k+1]?=some (gL (k+1)):=by rw[List.getElem?_eq_getElem (by omega),q2]
    have r3:L[u-k]?=some (gL (u-k)):=by rw[List.getElem?_eq_getElem (by omega),q3]
    have r4:L[u+1-k]?=some (gL (u+1-k)):=by rw[List.getElem?_eq_getElem (by omega),q4]
    have s1:=hgS k (by omega)
    have s2:=hgS (k+1) (by omega)
    have s3:=hgS (u-k) (by omega)
    have s4:=hgS (u+1-k) (by omega)
    have mk1:=mk_of s1 s2
    have mk2:=mk_of s3 s4
    have en:u+1-(k+1)=u-k:=by omega
    obtain⟨dw,hdw⟩:∃dw,decide ((k:Int).tmod 2=0)=dw:=⟨_,rfl⟩
    obtain⟨t1,_,_,t2,_⟩:=made_law a1 a2 mk1 m.toNat dw
    obtain⟨t3,_,t4,_,t5⟩:=made_law a1 a2 mk2 m.toNat dw
    generalize hP1:madeP [111] [110] (gL k) (gL (k+1)) m.toNat dw=x at *
    generalize hP2:madeP [111] [110] (gL (u-k)) (gL (u+1-k)) m.toNat dw=y at *
    have t6:=t3.rev
    generalize revP y=r at *
    have x1:PatS ⟨x.oldName,x.newName,x.hunks⟩:=t1
    have x2:∀b,applyV ⟨x.oldName,x.newName,x.hunks⟩ b=applyV x b:=fun b=>rfl
    have y1:PatOk ⟨y.oldName,y.newName,y.hunks⟩:=t3.1
    have y2:revD ⟨y.oldName,y.newName,y.hunks⟩=.tup [Rep.to r,.int .i64 0]:=t4
    have r5:PatS ⟨r.oldName,r.newName,r.hunks⟩:=t6
    have r6:∀b,applyV ⟨r.oldName,r.newName,r.hunks⟩ b=applyV r b:=fun b=>rfl
    simp[show (k:Int)<(u:Int)+1 by omega,show k<u+2 by omega,hLl,r1,r2,r3,r4,q1,q2,q3,q4,w2,w3,w4,w5,e2,e3,h1,hm,h3,a1,a2,mk1,mk2,hdw,hP1,hP2,h4,y1,y2,h5,x1,x2,t2,r5,r6,t5,show (gL k).length≤1048576 by have:=s1.2.2;omega,show (gL (u+1-k)).length≤1048576 by have:=s4.2.2;omega]
    refine⟨by omega,⟨by omega,by omega⟩,⟨by omega,by omega⟩,⟨by omega,by omega⟩,⟨by omega,by omega⟩,⟨by omega,by omega⟩,Nxt.mk (k+1) (by omega) (by simp[en]) (by simp) (by omega)⟩
  · obtain rfl:k=u+1:=by omega
    have q1:=hgL 0 (by omega)
    have q2:=hgL (u+1) (by omega)
    simp[hLl,q1,q2,h6]
    omega
theorem top_TopChains_pre (raw:List Int) (n:Int) (context:Int) (w0:Arg.wf raw) (w1:Arg.wf n) (w2:Arg.wf context):raw.length≤9223372036854775807:=by
  have:=len_wf w0
  omega
end Go.AE
