/-
  Contracts of the checks of whole tables.
-/
import Derived.Test.YtgmdpmpmbhahhaaDoorCona1
import Derived.Test.YtgmdpmpmbhahhaaDoorCode1
import Derived.Test.YtgmdpmpmbhahhaaDoorAe3
import Derived.Lib.Repeat

set_option linter.unusedSimpArgs false
set_option linter.unusedVariables false
set_option linter.unnecessarySimpa false
set_option maxRecDepth 20000
set_option maxHeartbeats 4000000
namespace Go.AE
@[simp] def S_ref16_Texts:List D→Prop × D:=spec2 (α:=List RowT) (β:=Int) (fun rows n=>rows.length≤1048576∧(∀r,r∈rows→r.text.length≤9223372036854775807)∧0≤n∧n≤32) (fun rows n=>.bool (textsB rows n.toNat))
theorem ct_ref16_Texts {P:Program} {f g1 g2 g3:Nat} {G:Gam} (h:CodeOf P f 2 9 [2] (x_ref16_Texts g1 g2 g3)) (hG:GamOk P G) (h1:G.find g1=some S_ref12_Line) (h2:G.find g2=some S_ref16_Column) (h3:G.find g3=some S_ref02_List):Has P f S_ref16_Texts:=h.has2 hG fun rows n hp=>by
  obtain⟨p1,p2,p3,p4⟩:=hp
  obtain⟨n,rfl⟩:=Int.eq_ofNat_of_zero_le p3
  simp[x_ref16_Texts]
  refine vc_lp (σ:=Nat) (fun k=>k≤rows.length∧(rows.all fun r=>lineB r.text)=((rows.drop k).all fun r=>lineB r.text)) (fun k=>rows.length-k) (fun k=>[.d (Rep.to rows),.d (.int .i64 n),.any,.d (.int .i64 k),.any,.any,.any,.any,.any]) (fun _=>[]) 0 (by simp) (by simp) ⟨by simp,by simp⟩ ?_
  rintro k ⟨k1,k2⟩
  by_cases hk:k<rows.length
  · have w1:IntKind.i64.wrap ((k:Int)+1)=(k:Int)+1:=wrap_in (by omega) (by omega)
    rw[List.drop_eq_getElem_cons hk,List.all_cons] at k2
    have hl2:=p2 _ (List.getElem_mem hk)
    cases hb:lineB rows[k].text with
    | true =>
      rw[hb,Bool.true_and] at k2
      simp[hk,getD_map,h1,hl2,hb,w1]
      exact Nxt.mk (k+1) (by omega) (by simp) (by simp) ⟨by omega,k2⟩
    | false =>
      rw[hb,Bool.false_and] at k2
      have ht:textsB rows n=false:=by unfold textsB;rw[k2];rfl
      simp[hk,getD_map,h1,hl2,hb,ht]
  · have hk2:k=rows.length:=by omega
    subst hk2
    rw[List.drop_length] at k2
    have ht:textsB rows n=(List.range (n+1)).all fun (c:Nat)=>listV (colV rows ((c:Int)-1)):=by unfold textsB;rw[k2];rfl
    simp
    refine vc_lp (σ:=Nat) (fun c=>c≤n+1∧∀d,d<c→listV (colV rows ((d:Int)-1))=true) (fun c=>n+1-c) (fun c=>[.d (Rep.to rows),.d (.int .i64 n),.any,.any,.d (.int .i64 ((c:Int)-1)),.any,.any,.any,.any]) (fun _=>[]) 0 (by simp) (by simp) ⟨by simp,by simp⟩ ?_
    rintro c ⟨c1,c2⟩
    by_cases hc:c<n+1
    · have hc':(c:Int)-1<n:=by omega
      have w1:IntKind.i64.wrap (c:Int)=(c:Int):=wrap_in (by omega) (by omega)
      obtain⟨q1,q2⟩:=col_flen rows ((c:Int)-1)
      have q3:strsOk (colV rows ((c:Int)-1)):=fun x hx=>by obtain⟨r,hr,rfl⟩:=col_mem hx;exact p2 r hr
      have q4:(colV rows ((c:Int)-1)).length≤4194304:=by omega
      cases hb:listV (colV rows ((c:Int)-1)) with
      | true =>
        simp[hc',h2,h3,p1,q3,q4,hb,w1]
        refine Nxt.mk (c+1) (by omega) (by simp) (by simp) ⟨by omega,fun d hd=>?_⟩
        by_cases hdc:d<c
        · exact c2 d hdc
        · obtain rfl:d=c:=by omega
          exact hb
      | false =>
        have hf:textsB rows n=false:=by
          rw[ht,List.all_eq_false]
          exact⟨c,by simp;omega,by rw[hb];simp⟩
        simp[hc',h2,h3,p1,q3,q4,hb,hf]
    · have hc':¬(c:Int)-1<n:=by omega
      have hf:textsB rows n=true:=by
        rw[ht,List.all_eq_true]
        intro d hd
        exact c2 d (by simp at hd;omega)
      simp[hc',hf]
@[simp] def S_ref16_Check:List D→Prop × D:=spec1 (α:=TableT) tabWide (fun t=>.int .i64 (checkTab t))
theorem ct_ref16_Check {P:Program} {f g1 g2:Nat} {G:Gam} (h:CodeOf P f 1 6 [2] (x_ref16_Check g1 g2)) (hG:GamOk P G) (h1:G.find g1=some S_ref16_Marks) (h2:G.find g2=some S_ref16_Texts):Has P f S_ref16_Check:=h.has1 hG fun t hp=>by
  obtain⟨p1,p2,p3⟩:=hp
  by_cases c1:t.parents<1
  · simp[x_ref16_Check,checkTab,c1]
  · by_cases c2:32<t.parents
    · simp[x_ref16_Check,checkTab,c1,c2]
    · have c3:0≤t.parents:=by omega
      have c4:t.parents≤32:=by omega
      cases hm:marksB t.rows t.parents.toNat with
      | false=>simp[x_ref16_Check,checkTab,c1,c2,h1,p1,c3,c4,hm,p2];exact fun a h=>p2 a h
      | true =>
        cases ht:textsB t.rows t.parents.toNat with
        | false=>simp[x_ref16_Check,checkTab,c1,c2,h1,h2,p1,c3,c4,hm,ht];exact⟨p2,p3⟩
        | true=>simp[x_ref16_Check,checkTab,c1,c2,h1,h2,p1,c3,c4,hm,ht];exact⟨p2,p3⟩
theorem shr32 {m:Int} {n:Nat} (h1:0≤m) (h2:m<4294967296) (hn:1≤n) (hn2:n≤32):((m.fdiv (2 ^ min 1 IntKind.u32.bits)).fdiv (2 ^ min (n-1) IntKind.u32.bits)=0)=(m.toNat<2 ^ n):=by
  obtain⟨m,rfl⟩:=Int.eq_ofNat_of_zero_le h1
  have e3:min (n-1) IntKind.u32.bits=n-1:=by simp only[IntKind.bits];omega
  have e4:min 1 IntKind.u32.bits=1:=rfl
  have h0:((2:Int) ^ (n-1))=((2 ^ (n-1):Nat):Int):=by push_cast;rfl
  have h5:(m:Int).fdiv ((2:Int) ^ 1)=((m / 2:Nat):Int):=by
    rw[show ((2:Int) ^ 1)=((2:Nat):Int) from rfl,Int.fdiv_eq_ediv_of_nonneg _ (Int.natCast_nonneg _)]
    rfl
  rw[e3,e4,h0,h5,Int.fdiv_eq_ediv_of_nonneg _ (Int.natCast_nonneg _),show (((m / 2:Nat):Int) / ((2 ^ (n-1):Nat):Int))=((m / 2 / 2 ^ (n-1):Nat):Int) from rfl,Nat.div_div_eq_div_mul]
  have e5:2 * 2 ^ (n-1)=2 ^ n:=by rw[Nat.mul_comm,← Nat.pow_succ];congr 1;omega
  rw[e5]
  have h3:m / 2 ^ n=0↔m<2 ^ n:=by rw[Nat.div_eq_zero_iff];have:=Nat.two_pow_pos n;omega
  simp only[Int.toNat_natCast,eq_iff_iff,← h3]
  omega
@[simp] def S_weave_Marked:List D→Prop × D:=spec2 (α:=RowT) (β:=Int) (fun r n=>rowOk r∧1≤n∧n≤32) (fun r n=>.bool (markB n.toNat r))
theorem ct_weave_Marked {P:Program} {f:Nat} {G:Gam} (h:CodeOf P f 2 4 [3] x_weave_Marked) (hG:GamOk P G):Has P f S_weave_Marked:=h.has2 hG fun r n hp=>by
  obtain⟨p1,p2,p3⟩:=hp
  obtain⟨n,rfl⟩:=Int.eq_ofNat_of_zero_le (show 0≤n by omega)
  have w1:IntKind.i64.wrap ((n:Int)-1)=((n-1:Nat):Int):=by rw[wrap_in (by omega) (by omega)];omega
  have hs:=shr32 p1.1 p1.2 (show 1≤n by omega) (by omega)
  by_cases c:r.marks.toNat<2 ^ n
  · cases hl:r.lost with
    | true=>simp[x_weave_Marked,w1,hs,c,hl,markB]
    | false=>simp[x_weave_Marked,w1,hs,c,hl,markB]
  · simp[x_weave_Marked,w1,hs,c,markB]
theorem index_ten (s:Str):(0≤Lib.index s [10])↔(10:UInt8)∈s:=by
  rcases first10 s with h | ⟨i,h1,h2⟩
  · have:Lib.index s [10]=-1:=Lib.index_none fun j hj=>by
      cases h3:Lib.occAt s [10] j with
      | false=>rfl
      | true=>exact absurd ((occ10 s j).1 h3) (h j)
    rw[this]
    constructor
    · intro h3;omega
    · intro h3
      obtain⟨k,hk⟩:=List.mem_iff_getElem?.1 h3
      exact absurd hk (h k)
  · have:Lib.index s [10]=i:=Lib.index_first (by have:=List.getElem?_eq_some_iff.1 h1;obtain⟨h3,_⟩:=this;omega) ((occ10 s i).2 h1) fun j hj=>by
      have:=h2 j hj
      cases h3:Lib.occAt s [10] j with
      | false=>rfl
      | true=>exact absurd ((occ10 s j).1 h3) this
    rw[this]
    constructor
    · intro _;exact List.mem_iff_getElem?.2 ⟨i,h1⟩
    · intro _;omega
@[simp] def S_strings_Contains:List D→Prop × D:=spec2 (α:=Str) (β:=Str) indOk (fun s n=>.bool (decide (0≤Lib.index s n)))
theorem ct_strings_Contains {P:Program} {f g1:Nat} {G:Gam} (h:CodeOf P f 2 3 [2] (x_strings_Contains g1)) (hG:GamOk P G) (h1:G.find g1=some S_strings_Index):Has P f S_strings_Contains:=h.has2 hG fun s n hp=>by
  simp[x_strings_Contains,h1,hp]
theorem bareV_le (x:Str):(bareV x).length≤x.length:=by
  unfold bareV
  split <;> simp
theorem bare_ten (s:Str):(10:UInt8)∈bareV s↔(10:UInt8)∈s.dropLast:=by
  rcases List.eq_nil_or_concat s with rfl | ⟨t,c,rfl⟩
  · simp[bareV,endedV]
  · simp only[List.concat_eq_append,bareV,endedV,List.getLast?_append,List.getLast?_singleton,Option.some_or,List.dropLast_concat]
    by_cases hc:c=10
    · simp[hc]
    · simp[hc,Ne.symm hc]
@[simp] def S_weave_Single:List D→Prop × D:=spec1 (α:=RowT) (fun r=>r.text.length≤9223372036854775807) (fun r=>.bool (lineB r.text))
theorem ct_weave_Single {P:Program} {f g1 g2:Nat} {G:Gam} (h:CodeOf P f 1 3 [2] (x_weave_Single g1 g2)) (hG:GamOk P G) (h1:G.find g1=some S_text_Bare) (h2:G.find g2=some S_strings_Contains):Has P f S_weave_Single:=h.has1 hG fun r hp=>by
  have hb:=bareV_le r.text
  have q1:=hp
  have q2:indOk (bareV r.text) [10]:=.inr rfl
  have e:decide (0≤Lib.index (bareV r.text) [10])=decide ((10:UInt8)∈r.text.dropLast):=by
    rw[Bool.eq_iff_iff,decide_eq_true_eq,decide_eq_true_eq,index_ten,bare_ten]
  by_cases c:r.text=[]
  · simp[x_weave_Single,c,lineB,okL]
  · have e2:(0≤Lib.index (bareV r.text) [10])=((10:UInt8)∈r.text.dropLast):=by rw[eq_iff_iff,index_ten,bare_ten]
    simp[x_weave_Single,h1,h2,q1,q2,c,e2,lineB,okL]
/-! ### following the rows -/
theorem xor_ones {m:Int} (h1:0≤m) (h2:m<4294967296):IntKind.u32.wrap ((((if IntKind.u32.signed=true then -1 else IntKind.u32.max) % 2 ^ IntKind.u32.bits).toNat ^^^ (m % 2 ^ IntKind.u32.bits).toNat:Nat):Int)=((4294967295 ^^^ m.toNat:Nat):Int):=by
  obtain⟨m,rfl⟩:=Int.eq_ofNat_of_zero_le h1
  have e:((if IntKind.u32.signed=true then -1 else IntKind.u32.max) % 2 ^ IntKind.u32.bits:Int).toNat=4294967295:=by decide
  have e2:(2:Int) ^ IntKind.u32.bits=4294967296:=rfl
  have e3:((m:Int) % 2 ^ IntKind.u32.bits).toNat=m:=by rw[e2];omega
  rw[e,e3,Int.toNat_natCast,u32_wrap]
  have:(4294967296:Nat)=2 ^ 32:=rfl
  rw[this]
  exact Nat.xor_lt_two_pow (by omega) (by omega)
theorem andU2 {a b:Nat} (ha:a<4294967296) (hb:b<4294967296):IntKind.u32.wrap ((a % 2 ^ IntKind.u32.bits &&& b % 2 ^ IntKind.u32.bits:Nat):Int)=((a &&& b:Nat):Int):=by
  have e:(2:Nat) ^ IntKind.u32.bits=4294967296:=rfl
  rw[e,Nat.mod_eq_of_lt ha,Nat.mod_eq_of_lt hb,u32_wrap]
  exact Nat.lt_of_le_of_lt Nat.and_le_left ha
theorem orU2 {a b:Nat} (ha:a<4294967296) (hb:b<4294967296):IntKind.u32.wrap ((a % 2 ^ IntKind.u32.bits ||| b % 2 ^ IntKind.u32.bits:Nat):Int)=((a ||| b:Nat):Int):=by
  have e:(2:Nat) ^ IntKind.u32.bits=4294967296:=rfl
  rw[e,Nat.mod_eq_of_lt ha,Nat.mod_eq_of_lt hb,u32_wrap]
  have:(4294967296:Nat)=2 ^ 32:=rfl
  rw[this] at *
  exact Nat.or_lt_two_pow ha hb
def A.gvd (α:Type) [Rep α] [Inhabited α] (x:A):α:=(Rep.of x.toD).getD default
attribute [simp] A.gvd
structure EndsX where
  res:Bool
  par:Nat
  row:RowT
  v:Nat
def endsOk (res:Bool) (par:Nat) (r:RowT):Bool:=decide (par &&& inN r=0) && (r.lost || !res)
def endsRes (res:Bool) (r:RowT):Bool:=res || (!endedV r.text && !r.lost)
def endsPar (par:Nat) (r:RowT):Nat:=if endedV r.text then par else par ||| inN r
@[simp] def F_weave_Ends_Add:RF EndsX where
  new:=0
  view a s:=⟨((s.getD 0 .dead).at 0 0).gb,((s.getD 0 .dead).at 0 1).gi.toNat,(a.getD 1 .any).gvd RowT,(s.getD 0 .dead).ver⟩
  args x:=[.ref 0 x.v 0 0,.agg [.d (.bool x.row.lost),.d (.int .u32 x.row.marks),.d (.str x.row.text)]]
  st x:=[.cells x.v 2 [.agg [.d (.bool x.res),.d (.int .u32 x.par)]]]
  pre x:=x.par<4294967296∧rowOk x.row∧x.row.text.length≤9223372036854775807
  res x:=.d (.bool (endsOk x.res x.par x.row))
  st' x:=[.cells x.v 2 [.agg [.d (.bool (endsRes x.res x.row)),.d (.int .u32 (endsPar x.par x.row))]]]
abbrev R_weave_Ends_Add:RSpec:=F_weave_Ends_Add.spec
theorem ct_weave_Ends_Add {P:Program} {f g1:Nat} {G:Gam} (hc:CodeOf P f 2 8 [3] (x_weave_Ends_Add g1)) (hG:GamOk P G) (h1:G.find g1=some S_text_Ended):RSpec.Ok P f R_weave_Ends_Add:=by
  refine RF.ok hc.call fun x hx=>hc.rcalls hG rfl ?_
  obtain⟨res,par,row,v⟩:=x
  obtain⟨p1,p2,p3⟩:=hx
  simp only at p1 p2 p3
  have q1:row.text.length≤9223372036854775807:=by omega
  have hx:=xor_ones p2.1 p2.2
  have hin:=inN_lt p2
  have h32:(2:Nat) ^ 32=4294967296:=rfl
  rw[h32] at hin
  have hin2:(4294967295 ^^^ row.marks.toNat:Nat)<4294967296:=by
    rw[← h32]
    obtain⟨a,b⟩:=p2
    exact Nat.xor_lt_two_pow (by omega) (by omega)
  have hmm:row.marks=((row.marks.toNat:Nat):Int):=by have:=p2.1;omega
  have hml:row.marks.toNat<4294967296:=by have:=p2.2;omega
  cases hl:row.lost with
  | true =>
    have hn:inN row=row.marks.toNat:=by simp[inN,hl]
    generalize row.marks.toNat=m at *
    cases he:endedV row.text <;> cases res <;> by_cases ha:par &&& m=0 <;>
      simp[x_weave_Ends_Add,startA,h1,hl,he,q1,hmm,andU2 p1 hml,orU2 p1 hml,ha]
    all_goals try exact FinR.done (by simp) (by simp[endsRes,endsPar,he,hl,hn,hmm]) rfl (by simp[resOf,endsOk,hl,hn,ha]) (by simp) (by simp)
  | false =>
    have hn:inN row=4294967295 ^^^ row.marks.toNat:=by simp[inN,hl]
    generalize hq:(4294967295 ^^^ row.marks.toNat:Nat)=m at *
    cases he:endedV row.text <;> cases res <;> by_cases ha:par &&& m=0 <;>
      simp[x_weave_Ends_Add,startA,h1,hl,he,q1,hx,andU2 p1 hin2,orU2 p1 hin2,ha]
    all_goals try exact FinR.done (by simp) (by simp[endsRes,endsPar,he,hl,hn]) rfl (by simp[resOf,endsOk,hl,hn,ha]) (by simp) (by simp)
theorem endsPar_lt {par:Nat} {r:RowT} (h:par<4294967296) (hr:rowOk r):endsPar par r<4294967296:=by
  have hin:=inN_lt hr
  unfold endsPar
  split
  · exact h
  · have:(4294967296:Nat)=2 ^ 32:=rfl
    rw[this] at *
    exact Nat.or_lt_two_pow h hin
theorem WkL.refl' (n:Nat) (k:List Ob):∀xs:List A,WkL n k xs xs
  | []=>trivial
  | _::xs=>⟨Wk.refl _ _ _,WkL.refl' n k xs⟩
theorem WkO.agg1 (n:Nat) (k:List Ob) (v e:Nat) (cs:List D) (h:(A.agg (cs.map .d)).fits e=true):WkO n k (.cells v e [.d (.agg cs)]) (.cells v e [.agg (cs.map .d)]):=by
  refine .inr ⟨v,e,_,_,rfl,rfl,rfl,fun i hi=>?_⟩
  simp only[List.length_singleton] at hi
  obtain rfl:i=0:=by omega
  exact⟨h,WkL.refl' _ _ _⟩
@[simp] def S_weave_Check:List D→Prop × D:=spec1 (α:=TableT) tabWide (fun t=>.int .i64 (checkTab t))
theorem ct_weave_Check {P:Program} {f g1 g2 g3:Nat} {G:Gam} (h:CodeOf P f 1 17 [2] (x_weave_Check g1 g2 g3)) (hG:GamOk P G) (h1:G.find g1=some S_weave_Marked) (h2:G.find g2=some S_weave_Single) (h3:G.findR g3=some R_weave_Ends_Add):Has P f S_weave_Check:=h.has1 hG fun t hp=>by
  obtain⟨p1,p2,p3⟩:=hp
  obtain⟨par,rows⟩:=t
  simp only at p1 p2 p3
  by_cases c1:par<1
  · simp[x_weave_Check,checkTab,c1]
  by_cases c2:32<par
  · simp[x_weave_Check,checkTab,c1,c2]
  obtain⟨n,rfl⟩:=Int.eq_ofNat_of_zero_le (show 0≤par by omega)
  have n1:(1:Int)≤n:=by omega
  have n2:(n:Int)≤32:=by omega
  have n3:n≤32:=by omega
  have hck:checkTab ⟨n,rows⟩=if marksB rows n=true then (if textsB rows n=true then 0 else 4) else 180:=by
    unfold checkTab
    rw[if_neg (by simp;omega)]
    rfl
  simp[x_weave_Check,c1,c2]
  refine vc_lp (σ:=Nat) (fun k=>k≤rows.length∧rows.all (markB n)=(rows.drop k).all (markB n)) (fun k=>rows.length-k) (fun k=>[.any,.ref 0 0 0 0,.any,.any,.any,.any,.any,.d (.sl 3 (rows.map Rep.to)),.d (.int .i64 rows.length),.d (.int .i64 k),.any,.any,.any,.any,.any,.any,.any])
    (fun k=>[.cells 0 2 [.d (Rep.to (⟨n,rows⟩:TableT))]]) 0 (by simp) (by simp) ⟨by simp,by simp⟩ ?_
  rintro k ⟨k1,k2⟩
  by_cases hk:k<rows.length
  · have w1:IntKind.i64.wrap ((k:Int)+1)=(k:Int)+1:=wrap_in (by omega) (by omega)
    have hr:=p2 _ (List.getElem_mem hk)
    rw[List.drop_eq_getElem_cons hk,List.all_cons] at k2
    cases hb:markB n rows[k] with
    | true =>
      rw[hb,Bool.true_and] at k2
      simp[hk,getD_map,w1,h1,hr,n1,n2,hb]
      exact Nxt.mk (k+1) (by omega) (by simp) (by simp) ⟨by omega,k2⟩
    | false =>
      rw[hb,Bool.false_and] at k2
      have hc:checkTab ⟨n,rows⟩=180:=by rw[hck,marksB_all,k2];rfl
      simp[hk,getD_map,h1,hr,n1,n2,hb,hc]
  have hk2:k=rows.length:=by omega
  subst hk2
  rw[List.drop_length] at k2
  have hm:rows.all (markB n)=true:=by rw[k2];rfl
  have hck2:checkTab ⟨n,rows⟩=if ((rows.all fun r=>lineB r.text) && endsB false 0 rows)=true then 0 else 4:=by
    rw[hck,marksB_all,hm,if_pos rfl,texts_ends p2 hm n3]
  simp
  refine vc_lpR (σ:=Nat × Bool × Nat) (fun x=>x.1≤rows.length∧x.2.2<4294967296∧((rows.all fun r=>lineB r.text) && endsB false 0 rows)=(((rows.drop x.1).all fun r=>lineB r.text) && endsB x.2.1 x.2.2 (rows.drop x.1))) (fun x=>rows.length-x.1)
    (fun x=>[.any,.ref 0 0 0 0,.any,.any,.ref 1 0 0 0,.any,.any,.any,.any,.any,.any,.any,.d (.sl 3 (rows.map Rep.to)),.d (.int .i64 rows.length),.d (.int .i64 x.1),.any,.any])
    (fun x=>[.cells 0 2 [.d (Rep.to (⟨n,rows⟩:TableT))],.cells 0 2 [.agg [.d (.bool x.2.1),.d (.int .u32 x.2.2)]]]) (0,false,0) ?_ ⟨by simp,by simp,by simp⟩ ?_
  · refine Re.wn (s':=[.cells 0 2 [.d (Rep.to (⟨n,rows⟩:TableT))],.cells 0 2 [.agg [.d (.bool false),.d (.int .u32 0)]]]) [false,true,false,false,true,false,false,false,false,false,false,false,true,true,true] [] (by simp) (by simp) ?_ ?_ (by simp)
    · simp
    · exact⟨.inl rfl,WkO.agg1 _ _ 0 2 [.bool false,.int .u32 0] rfl,trivial⟩
  rintro⟨k,res,par⟩ ⟨k1,k3,k4⟩
  simp only at k1 k3 k4
  by_cases hk:k<rows.length
  · have w1:IntKind.i64.wrap ((k:Int)+1)=(k:Int)+1:=wrap_in (by omega) (by omega)
    have hr:=p2 _ (List.getElem_mem hk)
    have hl2:=p3 _ (List.getElem_mem hk)
    rw[List.drop_eq_getElem_cons hk,List.all_cons,endsB] at k4
    have e1:(res || !endedV rows[k].text && !rows[k].lost)=endsRes res rows[k]:=rfl
    have e2:(if endedV rows[k].text=true then par else par ||| inN rows[k])=endsPar par rows[k]:=rfl
    have e3:(decide (par &&& inN rows[k]=0) && (rows[k].lost || !res))=endsOk res par rows[k]:=rfl
    rw[e1,e2,e3] at k4
    have q:=endsPar_lt k3 hr
    cases hb:lineB rows[k].text with
    | false =>
      have hc:checkTab ⟨n,rows⟩=4:=by rw[hck2,k4,hb];rfl
      simp[hk,getD_map,h2,hl2,hb,hc]
    | true =>
      cases ho:endsOk res par rows[k] with
      | false =>
        have hc:checkTab ⟨n,rows⟩=4:=by rw[hck2,k4,ho];simp
        simp[hk,getD_map,h2,h3,hl2,hb,ho,eRCall,k3,hr,hc]
      | true =>
        rw[hb,ho,Bool.true_and,Bool.true_and] at k4
        simp[hk,getD_map,h2,h3,hl2,hb,ho,eRCall,k3,hr,w1]
        exact Nxt.mk (k+1,endsRes res rows[k],endsPar par rows[k]) (by simp;omega) (by simp) (by simp) ⟨by simp;omega,q,k4⟩
  · have hk2:k=rows.length:=by omega
    subst hk2
    rw[List.drop_length] at k4
    have hc:checkTab ⟨n,rows⟩=0:=by rw[hck2,k4];rfl
    simp[hc]
end Go.AE
namespace Go.AE
def A.gfn:A→Nat
  | .fn (.func g) _ _=>g
  | _=>0
attribute [simp] A.gfn
theorem FinR.drop {rs:List Nat} {o:Ob} {r:D} {T:List A} (h:resOf rs T [o,.dead]=.d r) (ho:o.under 1=true) (hp:resPre rs T [o,.dead]):FinR rs [o] (.d r) [o] .ret T [o,.dead]:=by
  refine FinR.done (by simp) ?_ rfl h.symm ?_ rfl hp
  · simp
  · simpa using ho
end Go.AE
namespace Go.AE
end Go.AE
namespace Go.AE
def gapD (x:List Int) (s:List ChangeT) (k:Nat):D:=s.foldl (fun acc c=>if c.new=(k:Int) then .sl 1 (((x.drop c.old.toNat).take c.oldLen.toNat).map Rep.to) else acc) .nilsl
theorem gapD_of (x:List Int) (s:List ChangeT) (k:Nat):Rep.of (α:=List Int) (gapD x s k)=some (gapS x s k):=by
  unfold gapD gapS
  suffices ∀(s:List ChangeT) (a:D) (b:List Int),Rep.of (α:=List Int) a=some b→Rep.of (α:=List Int) (s.foldl (fun acc c=>if c.new=(k:Int) then .sl 1 (((x.drop c.old.toNat).take c.oldLen.toNat).map Rep.to) else acc) a)=some (s.foldl (fun acc c=>if c.new=(k:Int) then (x.drop c.old.toNat).take c.oldLen.toNat else acc) b) from this s .nilsl [] rfl
  intro s
  induction s with
  | nil=>intro a b h;exact h
  | cons c s ih =>
    intro a b h
    rw[List.foldl_cons,List.foldl_cons]
    refine ih _ _ ?_
    split
    · exact Rep.of_to (α:=List Int) _
    · exact h
theorem gapD_snoc (x:List Int) {s:List ChangeT} {c:Nat} (hc:c<s.length) (k:Nat):gapD x (s.take (c+1)) k=if s[c].new=(k:Int) then .sl 1 (((x.drop s[c].old.toNat).take s[c].oldLen.toNat).map Rep.to) else gapD x (s.take c) k:=by
  unfold gapD
  rw[List.take_succ_eq_append_getElem hc,List.foldl_append]
  rfl
def dAt (I:List (List Int)) (p c q k:Nat):D :=
  if q<p then gapD (I.getD (q+1) []) (scrV I q) k else if q=p then gapD (I.getD (q+1) []) ((scrV I q).take c) k else .nilsl
def rowD (n:Nat) (d:Nat→Nat→D) (k:Nat):List D:=(List.range n).map fun q=>d q k
def rowG (n:Nat) (d:Nat→Nat→D) (k:Nat):List A:=(List.range n).map fun q=>.d (d q k)
def rowsO (n:Nat) (d:Nat→Nat→D) (m:Nat):List Ob:=(List.range m).map fun k=>.cells 0 1 (rowG n d k)
def gapC (n m k:Nat):List A:=(List.range m).map fun j=>if j<k then .own (j+4) 0 0 n else .d .nilsl
def gapF (n m:Nat) (d:Nat→Nat→D) (k:Nat):List A:=(List.range m).map fun j=>if j<k then .d (.sl 1 (rowD n d j)) else .own (j+4) 0 0 n
def rowsF (n:Nat) (d:Nat→Nat→D) (m k:Nat):List Ob:=(List.range m).map fun j=>if j<k then .dead else .cells 0 1 (rowG n d j)
def marksC (L:Nat) (q:Nat→Nat):List A:=(List.range L).map fun k=>.d (.int .u32 (q k))
theorem rowG_len (n:Nat) (d:Nat→Nat→D) (k:Nat):(rowG n d k).length=n:=by simp[rowG]
theorem rowsO_len (n:Nat) (d:Nat→Nat→D) (m:Nat):(rowsO n d m).length=m:=by simp[rowsO]
theorem gapC_len (n m k:Nat):(gapC n m k).length=m:=by simp[gapC]
theorem marksC_len (L:Nat) (q:Nat→Nat):(marksC L q).length=L:=by simp[marksC]
theorem rowG_isD (n:Nat) (d:Nat→Nat→D) (k:Nat):(rowG n d k).all A.isD=true:=by simp[rowG,A.isD]
theorem rowG_toD (n:Nat) (d:Nat→Nat→D) (k:Nat):(rowG n d k).map A.toD=rowD n d k:=by simp[rowG,rowD,A.toD]
theorem marksC_isD (L:Nat) (q:Nat→Nat):(marksC L q).all A.isD=true:=by simp[marksC,A.isD]
theorem marksC_toD (L:Nat) (q:Nat→Nat):(marksC L q).map A.toD=((List.range L).map fun k=>(⟨q k⟩:U32T)).map Rep.to:=by simp[marksC,A.toD]
theorem rowsO_get {n:Nat} {d:Nat→Nat→D} {m k:Nat} (h:k<m):(rowsO n d m)[k]?=some (.cells 0 1 (rowG n d k)):=by
  simp[rowsO,h]
theorem gapC_get {n m k j:Nat} (h:j<m) (hk:j<k):(gapC n m k)[j]?=some (.own (j+4) 0 0 n):=by
  simp[gapC,h,hk]
theorem marksC_get {L:Nat} {q:Nat→Nat} {k:Nat} (h:k<L):(marksC L q)[k]?=some (.d (.int .u32 (q k))):=by
  simp[marksC,h]
theorem gapC_set {n m k:Nat} (hk:k<m):(gapC n m k).set k (.own (k+4) 0 0 n)=gapC n m (k+1):=by
  apply List.ext_getElem
  · simp[gapC]
  · intro i h1 h2
    simp only[gapC,List.getElem_set,List.getElem_map,List.getElem_range]
    by_cases e:k=i
    · subst e;simp
    · have:(i<k+1)=(i<k):=by rw[eq_iff_iff];omega
      simp[e,this]
theorem rowsO_succ (n:Nat) (d:Nat→Nat→D) (m:Nat):rowsO n d (m+1)=rowsO n d m++[.cells 0 1 (rowG n d m)]:=by simp[rowsO,List.range_succ]
theorem marksC_set {L:Nat} {q r:Nat→Nat} {k:Nat} {x:Int} (hx:x=(r k:Nat)) (h:∀j,j<L→j≠k→r j=q j):(marksC L q).set k (.d (.int .u32 x))=marksC L r:=by
  apply List.ext_getElem
  · simp[marksC]
  · intro i h1 h2
    simp only[marksC,List.getElem_set,List.getElem_map,List.getElem_range]
    simp[marksC] at h2
    by_cases e:k=i
    · subst e;simp[hx]
    · simp[e,h i h2 (Ne.symm e)]
theorem marksC_congr {L:Nat} {q r:Nat→Nat} (h:∀j,j<L→q j=r j):marksC L q=marksC L r:=by
  unfold marksC
  exact List.map_congr_left fun j hj=>by rw[h j (by simpa using hj)]
theorem rowsO_congr {n m:Nat} {d e:Nat→Nat→D} (h:∀q k,q<n→d q k=e q k):rowsO n d m=rowsO n e m:=by
  unfold rowsO rowG
  exact List.map_congr_left fun k _=>by
    congr 1
    exact List.map_congr_left fun q hq=>by rw[h q k (by simpa using hq)]
theorem rowsO_set {n m:Nat} {d e:Nat→Nat→D} {p k:Nat} {x:D} (hp:p<n) (hx:e p k=x) (h:∀q j,q<n→¬(q=p∧j=k)→e q j=d q j):(rowsO n d m).set k (.cells 0 1 ((rowG n d k).set p (.d x)))=rowsO n e m:=by
  apply List.ext_getElem
  · simp[rowsO]
  · intro i h1 h2
    simp only[rowsO,List.getElem_set,List.getElem_map,List.getElem_range]
    have key:∀j,j≠k→rowG n d j=rowG n e j:=fun j hj=>by
      unfold rowG
      exact List.map_congr_left fun q hq=>by rw[h q j (by simpa using hq) (by omega)]
    by_cases hki:k=i
    · subst hki
      simp only[if_true]
      congr 1
      apply List.ext_getElem
      · simp[rowG]
      · intro q q1 q2
        simp only[rowG,List.getElem_set,List.getElem_map,List.getElem_range]
        simp[rowG] at q2
        by_cases hqp:p=q
        · subst hqp;simp[hx]
        · simp[hqp,h q k q2 (by omega)]
    · rw[if_neg hki,key i (Ne.symm hki)]
theorem freezeRows {lo:Nat} {T:List A} (b0 b1:Ob) (mk:List A) (n m:Nat) (d:Nat→Nat→D):∀k,k≤m→Re lo T (b0::b1::.cells 0 1 mk::.cells 0 1 (gapC n m m)::rowsO n d m) T (b0::b1::.cells 0 1 mk::.cells 0 1 (gapF n m d k)::rowsF n d m k)
  | 0,_=>by
    have e1:gapC n m m=gapF n m d 0:=by
      unfold gapC gapF
      exact List.map_congr_left fun j hj=>by simp at hj;simp[hj]
    have e2:rowsO n d m=rowsF n d m 0:=by
      unfold rowsO rowsF
      exact List.map_congr_left fun j hj=>by simp
    rw[e1,e2]
    exact Re.refl _ _ _
  | k+1,h=>by
    refine Re.trans (freezeRows b0 b1 mk n m d k (by omega)) ?_
    have hlf:(rowsF n d m k).length=m:=by simp[rowsF]
    have hlg:(rowsF n d m (k+1)).length=m:=by simp[rowsF]
    refine Re.freeze (k+4) 0 1 (rowG n d k) ?_ (FzL.refl _ _ _ _ _) ⟨by simp[hlf,hlg],?_⟩ ?_
    · simp[rowsF,List.getD,show k<m by omega]
    · intro j hj hne
      match j,hj,hne with
      | 0,_,_=>exact .inl rfl
      | 1,_,_=>exact .inl rfl
      | 2,_,_=>exact .inl rfl
      | 3,_,_ =>
        refine .inr ⟨0,1,_,_,rfl,rfl,by simp[gapF],fun i hi=>?_⟩
        have hi:i<m:=by simpa [gapF] using hi
        have g1:(gapF n m d k).getD i .any=if i<k then .d (.sl 1 (rowD n d i)) else .own (i+4) 0 0 n:=by simp[gapF,List.getD,hi]
        have g2:(gapF n m d (k+1)).getD i .any=if i<k+1 then .d (.sl 1 (rowD n d i)) else .own (i+4) 0 0 n:=by simp[gapF,List.getD,hi]
        rw[g1,g2]
        by_cases c:i<k
        · rw[if_pos c,if_pos (by omega)]
          exact⟨rfl,FzL.refl _ _ _ _ _⟩
        · rw[if_neg c]
          by_cases c2:i<k+1
          · rw[if_pos c2]
            obtain rfl:i=k:=by omega
            refine⟨rfl,?_,trivial⟩
            have hf:=Fz.own (i+4) 0 1 0 n (rowG n d i) (by rw[List.drop_zero,List.take_of_length_le (by rw[rowG_len];omega)];exact rowG_isD _ _ _)
            rw[List.drop_zero,List.take_of_length_le (by rw[rowG_len];omega),rowG_toD] at hf
            exact hf
          · rw[if_neg c2]
            exact⟨rfl,FzL.refl _ _ _ _ _⟩
      | j+4,hj,hne =>
        refine .inl ?_
        have hjm:j<m:=by simp[hlf] at hj;omega
        have hjk:j≠k:=by omega
        have e:(j<k+1)=(j<k):=by rw[eq_iff_iff];omega
        simp[rowsF,List.getD,hjm,e]
    · simp[rowsF,List.getD,show k<m by omega]
def rowsD (n:Nat) (d:Nat→Nat→D) (m:Nat):List D:=(List.range m).map fun k=>.sl 1 (rowD n d k)
theorem fz_gaps (n m:Nat) (d:Nat→Nat→D):Fz 3 0 1 (gapF n m d m) (.own 3 0 0 m) (.d (.sl 1 (rowsD n d m))):=by
  have hg:gapF n m d m=(rowsD n d m).map .d:=by
    unfold gapF rowsD
    rw[List.map_map]
    exact List.map_congr_left fun j hj=>by simp at hj;simp[hj]
  have hl:(gapF n m d m).length=m:=by simp[gapF]
  have hf:=Fz.own 3 0 1 0 m (gapF n m d m) (by rw[List.drop_zero,List.take_of_length_le (by omega),hg];simp[A.isD])
  rw[List.drop_zero,List.take_of_length_le (by omega)] at hf
  rw[show (gapF n m d m).map A.toD=rowsD n d m by rw[hg,List.map_map];exact List.map_id' _] at hf
  exact hf
theorem fz_marks (L:Nat) (q:Nat→Nat):Fz 2 0 1 (marksC L q) (.own 2 0 0 L) (.d (.sl 1 (((List.range L).map fun k=>(⟨q k⟩:U32T)).map Rep.to))):=by
  have hl:=marksC_len L q
  have hf:=Fz.own 2 0 1 0 L (marksC L q) (by rw[List.drop_zero,List.take_of_length_le (by omega)];exact marksC_isD _ _)
  rw[List.drop_zero,List.take_of_length_le (by omega),marksC_toD] at hf
  exact hf
theorem ofAll_map2 {α β:Type} {f:D→Option β} {g:α→D} {h:α→β}:∀l:List α,(∀x,x∈l→f (g x)=some (h x))→ofAll f (l.map g)=some (l.map h)
  | [],_=>rfl
  | x::r,hx=>by
    simp only[List.map_cons,ofAll]
    rw[hx x (by simp),ofAll_map2 r fun y hy=>hx y (by simp[hy])]
theorem rowD_of (I:List (List Int)) (n k:Nat):ofAll (Rep.of (α:=List Int)) (rowD n (dAt I n 0) k)=some (gapV I n k):=by
  unfold rowD gapV
  exact ofAll_map2 _ fun q hq=>by
    have hq:q<n:=by simpa using hq
    unfold dAt
    rw[if_pos hq]
    exact gapD_of _ _ _
theorem dAt_start (I:List (List Int)) (q k:Nat):dAt I 0 0 q k=.nilsl:=by
  unfold dAt
  rw[if_neg (by omega)]
  split
  · rfl
  · rfl
theorem dAt_end (I:List (List Int)) (p q k:Nat):dAt I p (scrV I p).length q k=dAt I (p+1) 0 q k:=by
  unfold dAt
  by_cases h1:q<p
  · rw[if_pos h1,if_pos (by omega)]
  · rw[if_neg h1]
    by_cases h2:q=p
    · subst h2
      rw[if_pos rfl,if_pos (by omega),List.take_length]
    · rw[if_neg h2,if_neg (by omega)]
      split
      · rfl
      · rfl
theorem dAt_step {I:List (List Int)} {p c:Nat} (hc:c<(scrV I p).length) {k:Nat} (hk:(scrV I p)[c].new=(k:Int)) :
    dAt I p (c+1) p k=.sl 1 ((((I.getD (p+1) []).drop (scrV I p)[c].old.toNat).take (scrV I p)[c].oldLen.toNat).map Rep.to)∧∀q j,¬(q=p∧j=k)→dAt I p (c+1) q j=dAt I p c q j:=by
  constructor
  · unfold dAt
    rw[if_neg (by omega),if_pos rfl,gapD_snoc _ hc,if_pos hk]
  · intro q j h
    unfold dAt
    by_cases h1:q<p
    · rw[if_pos h1,if_pos h1]
    · rw[if_neg h1,if_neg h1]
      by_cases h2:q=p
      · subst h2
        have:(k:Int)≠j:=by omega
        rw[if_pos rfl,if_pos rfl,gapD_snoc _ hc,if_neg (by rw[hk];exact this)]
      · rw[if_neg h2,if_neg h2]
theorem rowsD_get {n:Nat} {d:Nat→Nat→D} {m k:Nat} (h:k<m):(rowsD n d m)[k]?=some (.sl 1 (rowD n d k)):=by simp[rowsD,h]
/-! ### the merged gaps -/
theorem merged_ok {xs:List (List Int)} (h1:xs.length≤32) (h2:sumL xs≤4096):coalD xs=.tup [Rep.to (mergedV xs),.int .i64 0]∧CoalOk xs (mergedV xs):=by
  obtain⟨m,e1,e2⟩:=coalO_ok xs [] [] (by simpa using h1) (by simpa [sumL] using h2) ⟨by simp,by simp,by simp⟩
  have e1:coalO xs 0 []=some m:=e1
  have em:mergedV xs=m:=by unfold mergedV;rw[e1];rfl
  rw[em]
  refine⟨?_,e2⟩
  unfold coalD
  rw[if_neg (by omega),e1]
theorem gapV_len (I:List (List Int)) (n k:Nat):(gapV I n k).length=n:=by simp[gapV]
theorem sumL_gap {I:List (List Int)} {n B:Nat} (h:∀p,p<n→(I.getD (p+1) []).length≤B) (k:Nat):sumL (gapV I n k)≤B * n:=by
  induction n with
  | zero=>simp[gapV,sumL]
  | succ n ih =>
    have e:gapV I (n+1) k=gapV I n k++[gapS (I.getD (n+1) []) (scrV I n) k]:=by simp[gapV,List.range_succ]
    rw[e,sumL_app]
    have h1:=ih fun p hp=>h p (by omega)
    have h2:=gapS_len (I.getD (n+1) []) (scrV I n) k
    have h3:=h n (by omega)
    have h4:sumL [gapS (I.getD (n+1) []) (scrV I n) k]=(gapS (I.getD (n+1) []) (scrV I n) k).length:=by simp[sumL]
    rw[h4,Nat.mul_succ]
    omega
theorem gapRows_len {N:List Str} {I:List (List Int)} {n B:Nat} (h:∀p,p<n→(I.getD (p+1) []).length≤B) (hn:n≤32) (hB:B * n≤4096) (k:Nat):(gapRows N I n k).length≤4097:=by
  have h1:=sumL_gap h k
  obtain⟨_,h2⟩:=merged_ok (xs:=gapV I n k) (by rw[gapV_len];exact hn) (by omega)
  have h3:=h2.len
  unfold gapRows
  rw[List.length_append,List.length_map]
  split <;> simp <;> omega
theorem rowsTo_len {N:List Str} {I:List (List Int)} {n B:Nat} (h:∀p,p<n→(I.getD (p+1) []).length≤B) (hn:n≤32) (hB:B * n≤4096):∀k,(rowsTo N I n k).length≤4097 * k
  | 0=>by simp[rowsTo]
  | k+1=>by
    rw[rowsTo_succ,List.length_append]
    have:=rowsTo_len (N:=N) h hn hB k
    have:=gapRows_len (N:=N) h hn hB k
    omega
theorem merged_line {I:List (List Int)} {n B:Nat} (h:∀p,p<n→(I.getD (p+1) []).length≤B) (hn:n≤32) (hB:B * n≤4096) {k:Nat} {m:MergedT} (hm:m∈mergedV (gapV I n k)):∃p,p<n∧m.line∈I.getD (p+1) []:=by
  have h1:=sumL_gap h k
  obtain⟨_,h2⟩:=merged_ok (xs:=gapV I n k) (by rw[gapV_len];exact hn) (by omega)
  obtain⟨b,hb,h3⟩:=coal_mem h2 (by rw[gapV_len];exact hn) hm
  have hbn:b<n:=by rw[gapV_len] at hb;exact hb
  refine⟨b,hbn,?_⟩
  have:(gapV I n k)[b]=gapS (I.getD (b+1) []) (scrV I b) k:=by simp[gapV]
  rw[this] at h3
  exact gapS_mem _ _ _ _ h3
theorem marksV_or (a p:Nat) (ha:a<2 ^ p) (hp:p<32):IntKind.u32.wrap ((a % 2 ^ IntKind.u32.bits ||| (IntKind.u32.wrap (2 ^ min p IntKind.u32.bits) % 2 ^ IntKind.u32.bits).toNat:Nat):Int)=((a ||| 2 ^ p:Nat):Int):=by
  have h1:2 ^ p<4294967296:=by
    have:(4294967296:Nat)=2 ^ 32:=rfl
    rw[this]
    exact Nat.pow_lt_pow_right (by omega) hp
  have:=orU_nat (a:=a) (b:=2 ^ p) (by omega) h1
  rw[← bitV_nat hp] at this
  rw[← this]
  unfold orU
  congr 2
theorem marksV_clr (m a p:Nat) (ha:a<2 ^ p) (hp:p<32) (hm:m=a∨m=a ||| 2 ^ p):IntKind.u32.wrap (((BitVec.ofInt IntKind.u32.bits (m:Int) &&& ~~~ BitVec.ofInt IntKind.u32.bits (IntKind.u32.wrap (2 ^ min p IntKind.u32.bits))).toNat:Nat):Int)=(a:Int):=by
  have h1:2 ^ p<4294967296:=by
    have:(4294967296:Nat)=2 ^ 32:=rfl
    rw[this]
    exact Nat.pow_lt_pow_right (by omega) hp
  have hb:IntKind.u32.wrap (2 ^ min p IntKind.u32.bits)=((2 ^ p:Nat):Int):=bitV_nat hp
  have hap:a.testBit p=false:=Nat.testBit_lt_two_pow ha
  have key:(BitVec.ofInt 32 (m:Int) &&& ~~~ BitVec.ofInt 32 ((2 ^ p:Nat):Int))=BitVec.ofNat 32 a:=by
    rw[BitVec.ofInt_natCast,BitVec.ofInt_natCast]
    apply BitVec.eq_of_getLsbD_eq
    intro i hi
    rw[BitVec.getLsbD_and,BitVec.getLsbD_not,BitVec.getLsbD_ofNat,BitVec.getLsbD_ofNat,BitVec.getLsbD_ofNat,Nat.testBit_two_pow]
    have hi':decide (i<32)=true:=by simpa using hi
    rw[hi']
    rcases hm with rfl | rfl
    · by_cases e:p=i
      · subst e;simp[hap]
      · simp[e]
    · rw[Nat.testBit_or,Nat.testBit_two_pow]
      by_cases e:p=i
      · subst e;simp[hap]
      · simp[e]
  rw[hb]
  show IntKind.u32.wrap (((BitVec.ofInt 32 (m:Int) &&& ~~~ BitVec.ofInt 32 ((2 ^ p:Nat):Int)).toNat:Nat):Int)=_
  rw[key,BitVec.toNat_ofNat,Nat.mod_eq_of_lt (by omega),u32_wrap (by omega)]
def mkT (I:List (List Int)) (p:Nat) (pr:List SpanT) (t j:Nat):Nat:=if ((pr.take t).any fun s=>decide (s.to=(j:Int)))=true then markN I j p else markN I j p ||| 2 ^ p
@[simp] theorem SbS_self:∀s:Store,SbS s s=True
  | []=>rfl
  | x::s=>by rw[SbS_cons,SbO_refl,SbS_self s];simp
def filesC (F:List (List Str)) (k:Nat):List A:=(F.take k).map fun x=>.d (Rep.to x)
theorem filesC_succ {F:List (List Str)} {k:Nat} (h:k<F.length):filesC F (k+1)=filesC F k++[.d (.sl 1 (F[k].map Rep.to))]:=by
  unfold filesC
  rw[List.take_succ_eq_append_getElem h,List.map_append]
  rfl
theorem filesC_len {F:List (List Str)} {k:Nat} (h:k≤F.length):(filesC F k).length=k:=by simp[filesC];omega
theorem filesC_under (F:List (List Str)) (k n:Nat):∀x,x∈filesC F k→A.under n x=true:=by
  intro x hx
  obtain⟨y,_,rfl⟩:=List.mem_map.1 hx
  rfl
theorem filesC_isD (F:List (List Str)) (k:Nat):(filesC F k).all A.isD=true:=by
  rw[List.all_eq_true]
  intro x hx
  obtain⟨y,_,rfl⟩:=List.mem_map.1 hx
  rfl
theorem filesC_toD (F:List (List Str)):(filesC F F.length).map A.toD=F.map Rep.to:=by
  unfold filesC
  rw[List.take_length,List.map_map]
  rfl
def rowsIn (N:List Str) (I:List (List Int)) (n k:Nat) (ml:List MergedT) (i:Nat):List RowT:=rowsTo N I n k++(ml.take i).map (lostRow N)
theorem rowsIn_zero (N:List Str) (I:List (List Int)) (n k:Nat) (ml:List MergedT):rowsIn N I n k ml 0=rowsTo N I n k:=by simp[rowsIn]
theorem rowsIn_succ (N:List Str) (I:List (List Int)) (n k:Nat) {ml:List MergedT} {i:Nat} (h:i<ml.length):rowsIn N I n k ml (i+1)=rowsIn N I n k ml i++[lostRow N ml[i]]:=by
  unfold rowsIn
  rw[List.take_succ_eq_append_getElem h,List.map_append,List.append_assoc]
  rfl
theorem rowsIn_len (N:List Str) (I:List (List Int)) (n k:Nat) {ml:List MergedT} {i:Nat} (h:i≤ml.length):(rowsIn N I n k ml i).length=(rowsTo N I n k).length+i:=by
  simp[rowsIn];omega
structure LoomX where
  names:List Str
  i0:List Int
  n:Nat
  L:Nat
  q:Nat→Nat
  d:Nat→Nat→D
  vg:Nat
  p:Nat
  x:List Int
  pn:Nat
def boxO:Ob:=.cells 0 2 [.d (.agg [.int .i64 0,.nilsl])]
def loomO (names:List Str) (i0:List Int) (L vg pn:Nat):Ob:=.cells 0 6 [.agg [.d (Rep.to names),.d (Rep.to i0),.own 2 0 0 L,.own 3 vg 0 (L+1),.d (.int .i64 pn),.d .nilsl]]
def addQ (s:List ChangeT) (p:Nat) (q:Nat→Nat) (k:Nat):Nat:=if insB s k=true then q k ||| 2 ^ p else q k
def addD (x:List Int) (s:List ChangeT) (p:Nat) (d:Nat→Nat→D) (r k:Nat):D:=if r=p then gapD x s k else d r k
def Ob.len:Ob→Nat
  | .cells _ _ xs=>xs.length
  | _=>0
def Ob.agn:Ob→Nat→A
  | .cells _ _ (.agg cs::_),j=>cs.getD j .any
  | _,_=>.any
def loomS (names:List Str) (i0:List Int) (n L:Nat) (q:Nat→Nat) (d:Nat→Nat→D) (vg pn:Nat):Store :=
  boxO::loomO names i0 L vg pn::.cells 0 1 (marksC L q)::.cells vg 1 (gapC n (L+1) (L+1))::rowsO n d (L+1)
@[simp] theorem loomS_len (names:List Str) (i0:List Int) (n L:Nat) (q:Nat→Nat) (d:Nat→Nat→D) (vg pn:Nat):(loomS names i0 n L q d vg pn).length=L+5:=by simp[loomS,rowsO_len]
def F_weave_loom_add:RF LoomX where
  new:=0
  view a s:=⟨((s.getD 1 .dead).agn 0).gl Str,((s.getD 1 .dead).agn 1).gl Int,(s.getD 4 .dead).len,(s.getD 2 .dead).len,fun k=>((s.getD 2 .dead).el k).gi.toNat,fun r k=>((s.getD (k+4) .dead).el r).toD,(s.getD 3 .dead).ver,(a.getD 1 .any).gi.toNat,(a.getD 2 .any).gl Int,((s.getD 1 .dead).agn 4).gi.toNat⟩
  args x:=[.ref 1 0 0 0,.d (.int .i64 x.p),.d (Rep.to x.x)]
  st x:=loomS x.names x.i0 x.n x.L x.q x.d x.vg x.pn
  pre x:=x.x.length≤4096∧x.i0.length=x.L∧x.L≤4096∧x.p<x.n∧x.n≤32∧(∀k,k<x.L→x.q k<4294967296)∧∀k,k<x.L+1→x.d x.p k=.nilsl
  res _:=.d (.int .i64 0)
  st' x:=loomS x.names x.i0 x.n x.L (addQ (scriptV x.x x.i0) x.p x.q) (addD x.x (scriptV x.x x.i0) x.p x.d) x.vg x.pn
abbrev R_weave_loom_add:RSpec:=F_weave_loom_add.specW
theorem pow32 {p:Nat} (h:p<32):2 ^ p<4294967296:=by
  have:(4294967296:Nat)=2 ^ 32:=rfl
  rw[this]
  exact Nat.pow_lt_pow_right (by omega) h
theorem or_lt32 {a p:Nat} (h:a<4294967296) (hp:p<32):a ||| 2 ^ p<4294967296:=by
  have:(4294967296:Nat)=2 ^ 32:=rfl
  have h2:=pow32 hp
  rw[this] at *
  exact Nat.or_lt_two_pow h h2
theorem or_idem (a b:Nat):a ||| b ||| b=a ||| b:=by rw[Nat.or_assoc,Nat.or_self]
theorem rowsO_congr2 {n m:Nat} {d e:Nat→Nat→D} (h:∀q k,q<n→k<m→d q k=e q k):rowsO n d m=rowsO n e m:=by
  unfold rowsO rowG
  exact List.map_congr_left fun k hk=>by
    congr 1
    exact List.map_congr_left fun q hq=>by rw[h q k (by simpa using hq) (by simpa using hk)]
theorem insB_snoc {s:List ChangeT} {c:Nat} (h:c<s.length) (k:Nat):insB (s.take (c+1)) k=(insB (s.take c) k || decide (s[c].new≤(k:Int)∧(k:Int)<s[c].new+s[c].newLen)):=by
  unfold insB
  rw[List.take_succ_eq_append_getElem h,List.any_append]
  simp
theorem SbS_app:∀s t:Store,SbS (s++t) s=True
  | [],t=>by simp
  | x::s,t=>by rw[List.cons_append,SbS_cons,SbO_refl,SbS_app s t];simp
theorem marksC_under (L:Nat) (q:Nat→Nat) (N:Nat):(marksC L q).all (A.under N)=true:=by
  rw[List.all_eq_true]
  intro x hx
  obtain⟨k,_,rfl⟩:=List.mem_map.1 hx
  rfl
theorem gapC_under (n m k:Nat) {N:Nat} (h:m+4≤N):(gapC n m k).all (A.under N)=true:=by
  rw[List.all_eq_true]
  intro x hx
  obtain⟨j,hj,rfl⟩:=List.mem_map.1 hx
  have hj:j<m:=by simpa using hj
  split
  · simp only[A.under,decide_eq_true_eq];omega
  · rfl
theorem rowsO_under (n:Nat) (d:Nat→Nat→D) (m N:Nat):(rowsO n d m).all (Ob.under N)=true:=by
  rw[List.all_eq_true]
  intro x hx
  obtain⟨j,hj,rfl⟩:=List.mem_map.1 hx
  show (rowG n d j).all (A.under N)=true
  rw[List.all_eq_true]
  intro y hy
  obtain⟨k,_,rfl⟩:=List.mem_map.1 hy
  rfl
theorem loomS_under (names:List Str) (i0:List Int) (n L:Nat) (q:Nat→Nat) (d:Nat→Nat→D) (vg pn:Nat):(loomS names i0 n L q d vg pn).all (Ob.under (L+5))=true:=by
  have h1:=marksC_under L q (L+5)
  have h2:=gapC_under n (L+1) (L+1) (N:=L+5) (by omega)
  have h3:=rowsO_under n d (L+1) (L+5)
  unfold loomS
  rw[List.all_cons,List.all_cons,List.all_cons,List.all_cons,h3]
  simp only[Ob.under,h1,h2,Bool.and_true]
  simp[boxO,loomO]
theorem get_snoc {α:Type} {l:List α} {n:Nat} (h:l.length=n) (x:α):(l++[x])[n]?=some x:=by subst h;simp
theorem get_snoc_lt {α:Type} {l:List α} {k:Nat} (h:k<l.length) (x:α):(l++[x])[k]?=l[k]?:=by rw[List.getElem?_append_left h]
theorem set_snoc_lt {α:Type} {l:List α} {k:Nat} (h:k<l.length) (x y:α):(l++[x]).set k y=l.set k y++[x]:=List.set_append_left _ _ h
def stepQ (s:List ChangeT) (p:Nat) (q:Nat→Nat) (c a j:Nat) (k:Nat):Nat:=if (insB (s.take c) k || decide (a≤k∧k<j))=true then q k ||| 2 ^ p else q k
theorem ct_weave_loom_add {P:Program} {f g1:Nat} {G:Gam} (hc:CodeOf P f 3 14 [3] (x_weave_loom_add g1)) (hG:GamOk P G) (h1:G.find g1=some S_shortest_Script):RSpec.Ok P f R_weave_loom_add:=by
  refine RF.okW hc.call fun x hx=>hc.rcalls hG rfl ?_
  obtain⟨names,i0,n,L,q,d,vg,p,x,pn⟩:=x
  obtain⟨p1,p2,p3,p4,p5,p6,p7⟩:=hx
  simp only at p1 p2 p3 p4 p5 p6 p7
  have hso:=script_ok (a:=x) (b:=i0) (by omega) (by omega)
  obtain⟨hck,_,_⟩:=hso
  simp only[checkV,Bool.and_eq_true] at hck
  obtain⟨_,hok⟩:=hck
  have hsl:=scriptV_len x i0
  have hlg:¬longV x i0:=by unfold longV;omega
  obtain⟨_,hnw⟩:=okV_new _ _ _ _ _ _ hok
  simp[F_weave_loom_add,x_weave_loom_add,startA,h1,loomS,loomO,boxO,hlg,show x.length≤1048576 by omega,show i0.length≤1048576 by omega]
  have hsl2:(scriptV x i0).length≤4097:=by omega
  generalize scriptV x i0=s at *
  have hA0:addQ (s.take 0) p q=q:=by funext k;simp[addQ,insB]
  have hD0:rowsO n (addD x (s.take 0) p d) (L+1)=rowsO n d (L+1):=rowsO_congr2 fun r k _ hk=>by
    unfold addD
    by_cases h:r=p
    · subst h;rw[if_pos rfl,p7 k hk];rfl
    · rw[if_neg h]
  refine vc_lp (σ:=Nat) (fun c=>c≤s.length) (fun c=>s.length-c)
    (fun c=>[.ref 1 0 0 0,.d (.int .i64 p),.d (Rep.to x),.any,.any,.any,.any,.any,.any,.d (Rep.to s),.d (.int .i64 s.length),.d (.int .i64 c),.any,.any])
    (fun c=>boxO::loomO names i0 L vg pn::.cells 0 1 (marksC L (addQ (s.take c) p q))::.cells vg 1 (gapC n (L+1) (L+1))::rowsO n (addD x (s.take c) p d) (L+1)) 0 (by simp) ?_ (by simp) ?_ (h0:=by simp[rowsO_len]) (hc:=.inl (by simp[rowsO_len]))
  · rw[hA0,hD0]
    simp[boxO,loomO]
  intro c hc
  by_cases hcl:c<s.length
  · have w1:IntKind.i64.wrap ((c:Int)+1)=(c:Int)+1:=wrap_in (by omega) (by omega)
    obtain⟨m3,m4,m5,m6,m7,m8⟩:=hnw _ (List.getElem_mem hcl)
    obtain⟨j,hj⟩:=Int.eq_ofNat_of_zero_le m3
    obtain⟨jl,hjl⟩:=Int.eq_ofNat_of_zero_le m4
    obtain⟨o,ho⟩:=Int.eq_ofNat_of_zero_le m6
    obtain⟨ol,hol⟩:=Int.eq_ofNat_of_zero_le m7
    have hrl:=rowsO_len n (addD x (s.take c) p d) (L+1)
    have hins:=fun k=>insB_snoc hcl k
    rw[hj,hjl] at hins
    have hq0:marksC L (addQ (s.take c) p q)=marksC L (stepQ s p q c j j):=marksC_congr fun k _=>by
      unfold addQ stepQ
      have:decide (j≤k∧k<j)=false:=by rw[decide_eq_false_iff_not];omega
      rw[this,Bool.or_false]
    rw[hq0]
    simp[hcl,getD_map,hrl,boxO,loomO,hj,hjl,ho,hol]
    have hgx:∀(l:List Ob) (y:Ob),l.length=L+1→(l++[y])[L+1]?=some y:=fun l y h=>get_snoc h y
    have hsy:∀(l:List Ob) (y z:Ob),l.length=L+1→(l++[y]).set (L+1) z=l++[z]:=fun l y z h=>by rw[List.set_append_right _ _ (by omega),h,Nat.sub_self];rfl
    have hgx2:∀(l:List Ob) (y:Ob),l.length=L+1→j<L+1→(l++[y])[j]?=l[j]?:=fun l y h1 h2=>get_snoc_lt (by omega) y
    have hsx:∀(l:List Ob) (y z:Ob),l.length=L+1→j<L+1→(l++[y]).set j z=l.set j z++[y]:=fun l y z h1 h2=>set_snoc_lt (by omega) _ _
    refine vc_lp (σ:=Nat) (fun k=>j≤k∧k≤j+jl) (fun k=>j+jl-k)
      (fun k=>[.ref 1 0 0 0,.d (.int .i64 p),.d (Rep.to x),.any,.any,.any,.ref (L+5) 0 0 0,.d (.int .i64 k),.any,.d (Rep.to s),.d (.int .i64 s.length),.d (.int .i64 c),.any,.any])
      (fun k=>boxO::.cells 0 6 [.agg [.d (Rep.to names),.d (Rep.to i0),.own 2 0 0 L,.own 3 vg 0 (L+1),.d (.int .i64 pn),.d .nilsl]]::.cells 0 1 (marksC L (stepQ s p q c j k))::.cells vg 1 (gapC n (L+1) (L+1))::(rowsO n (addD x (s.take c) p d) (L+1)++[.cells 0 4 [.d (.agg [.int .i64 o,.int .i64 ol,.int .i64 j,.int .i64 jl])]])) j (by simp) (by simp[boxO]) (by simp) ?_ (h0:=by simp[rowsO_len]) (hc:=.inl (by simp))
    rintro k ⟨k1,k2⟩
    by_cases hkj:k<j+jl
    · have w2:IntKind.i64.wrap ((k:Int)+1)=(k:Int)+1:=wrap_in (by omega) (by omega)
      have w3:IntKind.i64.wrap ((j:Int)+jl)=(j:Int)+jl:=wrap_in (by omega) (by omega)
      have hkL:k<L:=by omega
      have hmg:=marksC_get (q:=stepQ s p q c j k) hkL
      have hml:=marksC_len L (stepQ s p q c j k)
      have hv:stepQ s p q c j k k ||| 2 ^ p=q k ||| 2 ^ p:=by
        unfold stepQ
        split
        · exact or_idem _ _
        · rfl
      have hvl:stepQ s p q c j k k<4294967296:=by
        unfold stepQ
        split
        · exact or_lt32 (p6 k hkL) (by omega)
        · exact p6 k hkL
      have hms:∀y:Int,y=((q k ||| 2 ^ p:Nat):Int)→(marksC L (stepQ s p q c j k)).set k (.d (.int .u32 y))=marksC L (stepQ s p q c j (k+1)):=fun y hy =>
        marksC_set (by
          rw[hy]
          unfold stepQ
          have:decide (j≤k∧k<k+1)=true:=by rw[decide_eq_true_eq];omega
          rw[this,Bool.or_true,if_pos rfl]) fun i _ hi=>by
          unfold stepQ
          have:decide (j≤i∧i<k+1)=decide (j≤i∧i<k):=by rw[decide_eq_decide];omega
          rw[this]
      obtain⟨v,hvv⟩:∃v,stepQ s p q c j k k=v:=⟨_,rfl⟩
      rw[hvv] at hmg hv hvl
      have hor:IntKind.u32.wrap ((v % 2 ^ IntKind.u32.bits ||| (IntKind.u32.wrap (2 ^ min p IntKind.u32.bits) % 2 ^ IntKind.u32.bits).toNat:Nat):Int)=((q k ||| 2 ^ p:Nat):Int):=by
        have:=orU_nat (a:=v) (b:=2 ^ p) hvl (pow32 (by omega))
        rw[← bitV_nat (by omega),hv] at this
        rw[← this]
        unfold orU
        congr 2
      have hmg2:∀h:k<(marksC L (stepQ s p q c j k)).length,(marksC L (stepQ s p q c j k))[k]'h=.d (.int .u32 v):=fun h=>by obtain⟨_,h9⟩:=List.getElem?_eq_some_iff.1 hmg;exact h9
      simp[hgx,hsy,hrl,show (k:Int)<j+jl by omega,w3,hml,hkL,hmg,hmg2,hor,hms _ rfl,w2]
      exact Nxt.mk (k+1) (by omega) (by simp) (by simp) (by omega) (by simp[rowsO_len]) (.inl (by simp))
    · have h9:k=j+jl:=by omega
      subst h9
      have w3:IntKind.i64.wrap ((j:Int)+jl)=(j:Int)+jl:=wrap_in (by omega) (by omega)
      have w4:IntKind.i64.wrap ((o:Int)+ol)=(o:Int)+ol:=wrap_in (by omega) (by omega)
      have hq1:marksC L (stepQ s p q c j (j+jl))=marksC L (addQ (s.take (c+1)) p q):=marksC_congr fun k _=>by
        unfold addQ stepQ
        rw[hins k]
        have:decide ((j:Int)≤k∧(k:Int)<j+jl)=decide (j≤k∧k<j+jl):=by rw[decide_eq_decide];omega
        rw[this]
      have hjL:j<L+1:=by omega
      have hgg:=gapC_get (n:=n) (m:=L+1) (k:=L+1) (j:=j) (by omega) (by omega)
      have hgl:=gapC_len n (L+1) (L+1)
      have hrg:=rowsO_get (n:=n) (d:=addD x (s.take c) p d) (m:=L+1) (k:=j) (by omega)
      have hrw:=rowG_len n (addD x (s.take c) p d) j
      have hrs:=rowsO_set (n:=n) (m:=L+1) (d:=addD x (s.take c) p d) (e:=addD x (s.take (c+1)) p d) (p:=p) (k:=j) (x:=.sl 1 (((x.drop o).take ol).map Rep.to)) p4 (by
        unfold addD
        rw[if_pos rfl,gapD_snoc _ hcl,if_pos hj,ho,hol]
        simp) fun r i _ hri=>by
          unfold addD
          by_cases h:r=p
          · subst h
            rw[if_pos rfl,if_pos rfl,gapD_snoc _ hcl,if_neg (by rw[hj];omega)]
          · rw[if_neg h,if_neg h]
      simp at hrs
      have hgg2:∀h:j<(gapC n (L+1) (L+1)).length,(gapC n (L+1) (L+1))[j]'h=.own (j+4) 0 0 n:=fun h=>by obtain⟨_,h9⟩:=List.getElem?_eq_some_iff.1 hgg;exact h9
      have hrg2:∀h:j<(rowsO n (addD x (s.take c) p d) (L+1)).length,(rowsO n (addD x (s.take c) p d) (L+1))[j]'h=.cells 0 1 (rowG n (addD x (s.take c) p d) j):=fun h=>by obtain⟨_,h9⟩:=List.getElem?_eq_some_iff.1 hrg;exact h9
      rw[hq1]
      simp[hgx,hrg2,hsy,hgx2,hsx,hrl,hrg,w1,w3,w4,hjL,hgg,hgg2,hgl,hrw,p4,hrs,show ((o:Int)+ol).toNat-o=ol by omega]
      refine⟨by omega,by omega,Nxt.mk (c+1) (by omega) (by simp) ?_ (by omega) (by simp[rowsO_len]) (.inr ⟨by simp[rowsO_len],?_⟩)⟩
      · rw[SbS_cons,SbS_cons,SbS_cons,SbS_cons,SbS_app]
        simp[boxO]
      · have hl:∀s':Store,s'=loomS names i0 n L (addQ (s.take (c+1)) p q) (addD x (s.take (c+1)) p d) vg pn→s'.all (Ob.under s'.length)=true:=fun s' h=>by
          subst h
          rw[loomS_len]
          exact loomS_under _ _ _ _ _ _ _ _
        exact hl _ rfl
  · have h9:c=s.length:=by omega
    subst h9
    rw[List.take_length]
    simp
    refine FinR.done (by simp) (by simp[boxO,loomO]) (by simp[rowsO_len]) rfl ?_ (by simp)
    have hl:∀s':Store,s'=loomS names i0 n L (addQ s p q) (addD x s p d) vg pn→s'.all (Ob.under s'.length)=true:=fun s' h=>by
      subst h
      rw[loomS_len]
      exact loomS_under _ _ _ _ _ _ _ _
    exact hl _ rfl
def A.dl:A→List D
  | .d (.sl _ xs)=>xs
  | _=>[]
attribute [simp] A.dl Ob.agn
def ofDD (d:D):List (List Int):=(Rep.of (α:=List (List Int)) d).getD []
structure WeaveX where
  names:List Str
  i0:List Int
  marks:List U32T
  gaps:List D
  pn:Nat
  v:Nat
def weaveRow (names:List Str) (i0:List Int) (marks:List U32T) (gaps:List D) (k:Nat):List RowT :=
  (mergedV (ofDD (gaps.getD k .nilsl))).map (lostRow names)++if k<i0.length then [⟨false,(marks.getD k default).n,names.getD (i0.getD k 0).toNat []⟩] else []
def weaveTo (names:List Str) (i0:List Int) (marks:List U32T) (gaps:List D) (k:Nat):List RowT:=(List.range k).flatMap (weaveRow names i0 marks gaps)
theorem weaveTo_succ (names:List Str) (i0:List Int) (marks:List U32T) (gaps:List D) (k:Nat):weaveTo names i0 marks gaps (k+1)=weaveTo names i0 marks gaps k++weaveRow names i0 marks gaps k:=by simp[weaveTo,List.range_succ]
structure WeaveOk (x:WeaveX):Prop where
  l1:x.gaps.length=x.i0.length+1
  l2:x.marks.length=x.i0.length
  l3:x.i0.length≤101
  gp:∀k (h:k<x.gaps.length),∃ds xs,x.gaps[k]=.sl 1 ds∧ofAll (Rep.of (α:=List Int)) ds=some xs∧xs.length≤32∧sumL xs≤4096∧∀m,m∈mergedV xs→∃j:Nat,m.line=j∧j<x.names.length
  nm:∀k (h:k<x.i0.length),∃j:Nat,x.i0[k]=j∧j<x.names.length
@[simp] def F_weave_loom_weave:RF WeaveX where
  new:=1
  view a s:=⟨((s.getD 0 .dead).agn 0).gl Str,((s.getD 0 .dead).agn 1).gl Int,((s.getD 0 .dead).agn 2).gl U32T,((s.getD 0 .dead).agn 3).dl,((s.getD 0 .dead).agn 4).gi.toNat,(s.getD 0 .dead).ver⟩
  args x:=[.ref 0 x.v 0 0]
  st x:=[.cells x.v 6 [.agg [.d (Rep.to x.names),.d (Rep.to x.i0),.d (Rep.to x.marks),.d (.sl 1 x.gaps),.d (.int .i64 x.pn),.d .nilsl]],.res]
  pre x:=WeaveOk x
  res _:=.d (.int .i64 0)
  st' x:=[.cells x.v 6 [.agg [.d (Rep.to x.names),.d (Rep.to x.i0),.d (Rep.to x.marks),.d (.sl 1 x.gaps),.d (.int .i64 x.pn),.gr 1 3 ((weaveTo x.names x.i0 x.marks x.gaps (x.i0.length+1)).map Rep.to)]],.tip (weaveTo x.names x.i0 x.marks x.gaps (x.i0.length+1)).length]
abbrev R_weave_loom_weave:RSpec:=F_weave_loom_weave.spec
def weaveIn (names:List Str) (i0:List Int) (marks:List U32T) (gaps:List D) (k:Nat) (ml:List MergedT) (i:Nat):List RowT:=weaveTo names i0 marks gaps k++(ml.take i).map (lostRow names)
theorem weaveIn_zero (names:List Str) (i0:List Int) (marks:List U32T) (gaps:List D) (k:Nat) (ml:List MergedT):weaveIn names i0 marks gaps k ml 0=weaveTo names i0 marks gaps k:=by simp[weaveIn]
theorem weaveIn_succ (names:List Str) (i0:List Int) (marks:List U32T) (gaps:List D) (k:Nat) {ml:List MergedT} {i:Nat} (h:i<ml.length):weaveIn names i0 marks gaps k ml (i+1)=weaveIn names i0 marks gaps k ml i++[lostRow names ml[i]]:=by
  unfold weaveIn
  rw[List.take_succ_eq_append_getElem h,List.map_append,List.append_assoc]
  rfl
theorem weaveIn_len (names:List Str) (i0:List Int) (marks:List U32T) (gaps:List D) (k:Nat) {ml:List MergedT} {i:Nat} (h:i≤ml.length):(weaveIn names i0 marks gaps k ml i).length=(weaveTo names i0 marks gaps k).length+i:=by
  simp[weaveIn];omega
theorem FinR.pick2 {rs:List Nat} {o:Ob} {a:Nat} {res:A} {v e:Nat} {xs ys:List A} {T:List A} (h:resOf rs T [.cells v e xs,.res,.tip a]=res) (hu:∃y,res=.d y)
    (h1:xs.map (A.ren (idxIn [0,2]))=ys) (h2:ys.all (A.under 2)=true) (hp:resPre rs T [.cells v e xs,.res,.tip a]):FinR rs [o,.res] res [.cells v e ys,.tip a] .ret T [.cells v e xs,.res,.tip a]:=by
  refine⟨hp,[0,2],rfl,⟨by decide,by simp,?_⟩,fun k hk=>?_,?_,?_,?_⟩
  · simp[pickS,Ob.ren,h1]
    simpa using h2
  · match k,hk with
    | 0,_=>exact .inl rfl
    | 1,_=>exact .inr rfl
  · simp[pickS,Ob.ren,h1]
  · rw[h]
    obtain⟨y,rfl⟩:=hu
    rfl
  · obtain⟨y,rfl⟩:=hu
    rfl
theorem ct_weave_loom_weave {P:Program} {f g1:Nat} {G:Gam} (hc:CodeOf P f 1 17 [1] (x_weave_loom_weave g1)) (hG:GamOk P G) (h1:G.find g1=some S_lost_Coalesce):RSpec.Ok P f R_weave_loom_weave:=by
  refine RF.ok hc.call fun x hx=>hc.rcalls hG rfl ?_
  obtain⟨names,i0,marks,gaps,pn,v⟩:=x
  obtain⟨l1,l2,l3,gp,nm⟩:=hx
  simp only at l1 l2 l3 gp nm
  obtain⟨L,hL⟩:∃L,i0.length=L:=⟨_,rfl⟩
  rw[hL] at l1 l2 l3
  simp[x_weave_loom_weave,startA,hL,l1]
  refine vc_lpR (σ:=Nat) (fun k=>k≤L+1∧(weaveTo names i0 marks gaps k).length≤4097 * k) (fun k=>L+1-k)
    (fun k=>[.ref 0 v 0 0,.any,.any,.any,.any,.any,.any,.d (.sl 1 gaps),.d (.int .i64 ((L:Int)+1)),.d (.int .i64 k),.any,.any,.any,.any,.any,.any,.any])
    (fun k=>[.cells v 6 [.agg [.d (Rep.to names),.d (Rep.to i0),.d (Rep.to marks),.d (.sl 1 gaps),.d (.int .i64 pn),.gr 2 3 ((weaveTo names i0 marks gaps k).map Rep.to)]],.res,.tip (weaveTo names i0 marks gaps k).length]) 0 ?_ (by simp[weaveTo]) ?_
  · refine Re.weak (k:=[.tip 0]) (s':=[.cells v 6 [.agg [.d (Rep.to names),.d (Rep.to i0),.d (Rep.to marks),.d (.sl 1 gaps),.d (.int .i64 pn),.gr 2 3 []]],.res]) (by simp) (by simp) (by simp) ⟨.cellsL ?_,.inl rfl,trivial⟩
    simp
    exact Wk.fresh 2 [.tip 0] 3 0 rfl
  rintro k ⟨hk,hkl⟩
  by_cases hkL:k<L+1
  · have w1:IntKind.i64.wrap ((k:Int)+1)=(k:Int)+1:=wrap_in (by omega) (by omega)
    obtain⟨ds,xs,hds,hof,x1,x2,x3⟩:=gp k (by omega)
    obtain⟨hco,hcok⟩:=merged_ok (xs:=xs) x1 x2
    have hml:=hcok.len
    have hkg:k<gaps.length:=by omega
    have hofd:ofDD (gaps.getD k .nilsl)=xs:=by
      unfold ofDD
      have:gaps.getD k .nilsl=gaps[k]:=by simp[List.getD,hkg]
      rw[this,hds]
      show (if 1=1 then ofAll (Rep.of (α:=List Int)) ds else none).getD []=xs
      rw[if_pos rfl,hof]
      rfl
    have hrs:=weaveTo_succ names i0 marks gaps k
    unfold weaveRow at hrs
    rw[hofd,hL] at hrs
    have hxl:∀x,x∈xs→x.length≤1048576:=fun x hx=>by
      have:x.length≤sumL xs:=by
        unfold sumL
        obtain⟨i,hi,rfl⟩:=List.mem_iff_getElem.1 hx
        have e:=sumL_drop (xs:=xs.drop 0) (k:=i) (by simpa using hi)
        have:∀(l:List (List Int)) (i:Nat) (h:i<l.length),l[i].length≤(l.map List.length).sum:=by
          intro l
          induction l with
          | nil=>intro i h;simp at h
          | cons a l ih =>
            intro i h
            cases i with
            | zero=>simp
            | succ i =>
              have:=ih i (by simpa using h)
              simp only[List.getElem_cons_succ,List.map_cons,List.sum_cons]
              omega
        exact this xs i hi
      omega
    simp[hkL,show (k:Int)<(L:Int)+1 by omega,hkg,h1,hds,hof,hco,hxl,show xs.length≤1048576 by omega]
    refine⟨hxl,?_⟩
    have hmm:∀m,m∈mergedV xs→∃j:Nat,m.line=j∧j<names.length:=x3
    generalize mergedV xs=ml at *
    have hk101:(weaveTo names i0 marks gaps k).length≤4097 * 101:=by omega
    have hmll:ml.length≤4096:=by omega
    rw[← weaveIn_zero names i0 marks gaps k ml]
    refine vc_lp (σ:=Nat) (fun i=>i≤ml.length) (fun i=>ml.length-i)
      (fun i=>[.ref 0 v 0 0,.any,.d (.int .i64 k),.any,.any,.any,.any,.d (.sl 1 gaps),.d (.int .i64 ((L:Int)+1)),.d (.int .i64 k),.any,.any,.d (Rep.to ml),.d (.int .i64 ml.length),.d (.int .i64 i),.any,.any])
      (fun i=>[.cells v 6 [.agg [.d (Rep.to names),.d (Rep.to i0),.d (Rep.to marks),.d (.sl 1 gaps),.d (.int .i64 pn),.gr 2 3 ((weaveIn names i0 marks gaps k ml i).map Rep.to)]],.res,.tip (weaveIn names i0 marks gaps k ml i).length]) 0 (by simp) (by simp) (by simp) ?_
    intro i hi
    by_cases hil:i<ml.length
    · have w2:IntKind.i64.wrap ((i:Int)+1)=(i:Int)+1:=wrap_in (by omega) (by omega)
      obtain⟨j,hj,hjN⟩:=hmm _ (List.getElem_mem hil)
      have hst:=weaveIn_succ names i0 marks gaps k hil
      have hsl:=weaveIn_len names i0 marks gaps k hi
      have hlr:lostRow names ml[i]=⟨true,ml[i].parents,names[j]⟩:=by unfold lostRow;rw[hj];simp[List.getD,hjN]
      rw[hlr] at hst
      simp[hil,getD_map,hj,hjN,w2,hsl]
      exact⟨by unfold room;omega,Nxt.mk (i+1) (by omega) (by simp) (by simp[hst,hsl]) (by omega)⟩
    · have h9:i=ml.length:=by omega
      subst h9
      have hsl:=weaveIn_len names i0 marks gaps k (Nat.le_refl ml.length)
      have hre:weaveIn names i0 marks gaps k ml ml.length=weaveTo names i0 marks gaps k++ml.map (lostRow names):=by unfold weaveIn;rw[List.take_length]
      by_cases hkl2:k<L
      · obtain⟨j,hj,hjN⟩:=nm k (by omega)
        have hki:k<i0.length:=by omega
        have hkm:k<marks.length:=by omega
        have e1:marks.getD k default=marks[k]:=by simp[List.getD,hkm]
        have e2:i0.getD k 0=i0[k]:=by simp[List.getD,hki]
        have e3:names.getD (i0[k]).toNat []=names[j]:=by rw[hj];simp[List.getD,hjN]
        have hrs2:weaveTo names i0 marks gaps (k+1)=weaveIn names i0 marks gaps k ml ml.length++[⟨false,marks[k].n,names[j]⟩]:=by rw[hrs,if_pos hkl2,hre,List.append_assoc,e1,e2,e3]
        have hl2:(weaveTo names i0 marks gaps (k+1)).length=(weaveTo names i0 marks gaps k).length+ml.length+1:=by rw[hrs2];simp[hsl]
        simp[hkl2,hL,hki,hkm,getD_map,w1,hj,hjN,hsl]
        exact⟨by unfold room;omega,Nxt.mk (k+1) (by omega) (by simp) (by simp[hrs2,hsl]) ⟨by omega,by omega⟩⟩
      · have hrs2:weaveTo names i0 marks gaps (k+1)=weaveIn names i0 marks gaps k ml ml.length:=by rw[hrs,if_neg hkl2,hre,List.append_nil]
        have hl2:(weaveTo names i0 marks gaps (k+1)).length=(weaveTo names i0 marks gaps k).length+ml.length:=by rw[hrs2];simp[hsl]
        simp[w1,hL,show ¬k<L by omega]
        exact Nxt.mk (k+1) (by omega) (by simp) (by simp[hrs2]) ⟨by omega,by omega⟩
  · have h9:k=L+1:=by omega
    subst h9
    simp
    exact FinR.pick2 (by simp[resOf,resE]) ⟨_,rfl⟩ (by simp[idxIn] <;> rfl) (by simp) (by simp[resPre,resE])
theorem loomS_congr {names:List Str} {i0:List Int} {n L:Nat} {q q':Nat→Nat} {d d':Nat→Nat→D} {vg pn:Nat} (h1:∀k,k<L→q k=q' k) (h2:∀r k,r<n→k<L+1→d r k=d' r k):loomS names i0 n L q d vg pn=loomS names i0 n L q' d' vg pn:=by
  unfold loomS
  rw[marksC_congr h1,rowsO_congr2 h2]
theorem eR_loom_add {G:Gam} {f:Nat} (hf:G.findR f=some R_weave_loom_add) {names:List Str} {i0:List Int} {n L:Nat} {q:Nat→Nat} {d:Nat→Nat→D} {vg pn p:Nat} {x:List Int}
    (p1:x.length≤4096) (p2:i0.length=L) (p3:L≤4096) (p4:p<n) (p5:n≤32) (p6:∀k,k<L→q k<4294967296) (p7:∀k,k<L+1→d p k=.nilsl) :
    eRCall G (loomS names i0 n L q d vg pn) (L+5) f [.ref 1 0 0 0,.d (.int .i64 p),.d (.sl 1 (x.map Rep.to))]=⟨True,wholeFp (L+5) (loomS names i0 n L (addQ (scriptV x i0) p q) (addD x (scriptV x i0) p d) vg pn),.d (.int .i64 0)⟩:=by
  have hv:∃q' d',F_weave_loom_add.view [.ref 1 0 0 0,.d (.int .i64 p),.d (.sl 1 (x.map Rep.to))] (loomS names i0 n L q d vg pn)=⟨names,i0,n,L,q',d',vg,p,x,pn⟩∧(∀k,k<L→q' k=q k)∧∀r k,r<n→k<L+1→d' r k=d r k:=by
    refine⟨fun k=>(((loomS names i0 n L q d vg pn).getD 2 .dead).el k).gi.toNat,fun r k=>(((loomS names i0 n L q d vg pn).getD (k+4) .dead).el r).toD,?_,fun k hk=>?_,fun r k hr hk=>?_⟩
    · have h4:(loomS names i0 n L q d vg pn).getD 4 .dead=.cells 0 1 (rowG n d 0):=by
        simp[loomS,List.getD,rowsO_get (n:=n) (d:=d) (m:=L+1) (k:=0) (by omega)]
      unfold F_weave_loom_add
      simp only[h4,LoomX.mk.injEq]
      refine⟨?_,?_,by simp[Ob.len,rowG_len],?_,by first | rfl | trivial,by first | rfl | trivial,rfl,by simp,by simp[ofAll_to],?_⟩
      · simp[loomS,loomO,ofAll_to]
      · simp[loomS,loomO,ofAll_to]
      · simp[loomS,Ob.len,marksC_len]
      · simp[loomS,loomO]
    · simp[loomS,List.getD,marksC_get hk]
    · simp[loomS,List.getD,rowsO_get (n:=n) (d:=d) hk,rowG,hr] <;> rfl
  obtain⟨q',d',hv,hq,hd⟩:=hv
  have e1:loomS names i0 n L q d vg pn=loomS names i0 n L q' d' vg pn:=loomS_congr (fun k hk=>(hq k hk).symm) fun r k hr hk=>(hd r k hr hk).symm
  have hst:F_weave_loom_add.st ⟨names,i0,n,L,q',d',vg,p,x,pn⟩=loomS names i0 n L q' d' vg pn:=rfl
  have hst':F_weave_loom_add.st' ⟨names,i0,n,L,q',d',vg,p,x,pn⟩=loomS names i0 n L (addQ (scriptV x i0) p q) (addD x (scriptV x i0) p d) vg pn:=by
    show loomS names i0 n L (addQ (scriptV x i0) p q') (addD x (scriptV x i0) p d') vg pn=_
    exact loomS_congr (fun k hk=>by unfold addQ;rw[hq k hk]) fun r k hr hk=>by unfold addD;rw[hd r k hr hk]
  have key:=eR_whole (r:=F_weave_loom_add) hf (s:=loomS names i0 n L q d vg pn) (nw:=L+5) (args:=[.ref 1 0 0 0,.d (.int .i64 p),.d (.sl 1 (x.map Rep.to))]) (loomS_len _ _ _ _ _ _ _ _) (loomS_under _ _ _ _ _ _ _ _) (by simp)
    (by rw[hv];rfl) (by rw[hv,hst];exact e1) (by
      rw[hv]
      exact⟨p1,p2,p3,p4,p5,fun k hk=>by simp only at hk ⊢;rw[hq k hk];exact p6 k hk,fun k hk=>by simp only at hk ⊢;rw[hd p k p4 hk];exact p7 k hk⟩)
    (by rw[hv,hst'];exact loomS_len _ _ _ _ _ _ _ _) (by rw[hv,hst'];exact loomS_under _ _ _ _ _ _ _ _) (by rw[hv];rfl)
  rw[key,hv,hst']
  rfl
theorem freezeRowsV {lo:Nat} {T:List A} (b0 b1:Ob) (mk:List A) (n m vg:Nat) (d:Nat→Nat→D):∀k,k≤m→Re lo T (b0::b1::.cells 0 1 mk::.cells vg 1 (gapC n m m)::rowsO n d m) T (b0::b1::.cells 0 1 mk::.cells vg 1 (gapF n m d k)::rowsF n d m k)
  | 0,_=>by
    have e1:gapC n m m=gapF n m d 0:=by
      unfold gapC gapF
      exact List.map_congr_left fun j hj=>by simp at hj;simp[hj]
    have e2:rowsO n d m=rowsF n d m 0:=by
      unfold rowsO rowsF
      exact List.map_congr_left fun j hj=>by simp
    rw[e1,e2]
    exact Re.refl _ _ _
  | k+1,h=>by
    refine Re.trans (freezeRowsV b0 b1 mk n m vg d k (by omega)) ?_
    have hlf:(rowsF n d m k).length=m:=by simp[rowsF]
    have hlg:(rowsF n d m (k+1)).length=m:=by simp[rowsF]
    refine Re.freeze (k+4) 0 1 (rowG n d k) ?_ (FzL.refl _ _ _ _ _) ⟨by simp[hlf,hlg],?_⟩ ?_
    · simp[rowsF,List.getD,show k<m by omega]
    · intro j hj hne
      match j,hj,hne with
      | 0,_,_=>exact .inl rfl
      | 1,_,_=>exact .inl rfl
      | 2,_,_=>exact .inl rfl
      | 3,_,_ =>
        refine .inr ⟨vg,1,_,_,rfl,rfl,by simp[gapF],fun i hi=>?_⟩
        have hi:i<m:=by simpa [gapF] using hi
        have g1:(gapF n m d k).getD i .any=if i<k then .d (.sl 1 (rowD n d i)) else .own (i+4) 0 0 n:=by simp[gapF,List.getD,hi]
        have g2:(gapF n m d (k+1)).getD i .any=if i<k+1 then .d (.sl 1 (rowD n d i)) else .own (i+4) 0 0 n:=by simp[gapF,List.getD,hi]
        rw[g1,g2]
        by_cases c:i<k
        · rw[if_pos c,if_pos (by omega)]
          exact⟨rfl,FzL.refl _ _ _ _ _⟩
        · rw[if_neg c]
          by_cases c2:i<k+1
          · rw[if_pos c2]
            obtain rfl:i=k:=by omega
            refine⟨rfl,?_,trivial⟩
            have hf:=Fz.own (i+4) 0 1 0 n (rowG n d i) (by rw[List.drop_zero,List.take_of_length_le (by rw[rowG_len];omega)];exact rowG_isD _ _ _)
            rw[List.drop_zero,List.take_of_length_le (by rw[rowG_len];omega),rowG_toD] at hf
            exact hf
          · rw[if_neg c2]
            exact⟨rfl,FzL.refl _ _ _ _ _⟩
      | j+4,hj,hne =>
        refine .inl ?_
        have hjm:j<m:=by simp[hlf] at hj;omega
        have hjk:j≠k:=by omega
        have e:(j<k+1)=(j<k):=by rw[eq_iff_iff];omega
        simp[rowsF,List.getD,hjm,e]
    · simp[rowsF,List.getD,show k<m by omega]
def loomD (names:List Str) (i0:List Int) (marks:List U32T) (gaps:List D) (pn:Nat):Ob:=.cells 0 6 [.agg [.d (Rep.to names),.d (Rep.to i0),.d (Rep.to marks),.d (.sl 1 gaps),.d (.int .i64 pn),.d .nilsl]]
def marksT (L:Nat) (q:Nat→Nat):List U32T:=(List.range L).map fun k=>⟨q k⟩
theorem fz_gapsV (n m vg:Nat) (d:Nat→Nat→D):Fz 3 vg 1 (gapF n m d m) (.own 3 vg 0 m) (.d (.sl 1 (rowsD n d m))):=by
  have hg:gapF n m d m=(rowsD n d m).map .d:=by
    unfold gapF rowsD
    rw[List.map_map]
    exact List.map_congr_left fun j hj=>by simp at hj;simp[hj]
  have hl:(gapF n m d m).length=m:=by simp[gapF]
  have hf:=Fz.own 3 vg 1 0 m (gapF n m d m) (by rw[List.drop_zero,List.take_of_length_le (by omega),hg];simp[A.isD])
  rw[List.drop_zero,List.take_of_length_le (by omega)] at hf
  rw[show (gapF n m d m).map A.toD=rowsD n d m by rw[hg,List.map_map];exact List.map_id' _] at hf
  exact hf
theorem freezeLoom {lo:Nat} (hlo:lo≤2) {T:List A} (hT:T.all (A.under 2)=true) (names:List Str) (i0:List Int) (n L:Nat) (q:Nat→Nat) (d:Nat→Nat→D) (vg pn:Nat) :
    Re lo T (loomS names i0 n L q d vg pn) T [boxO,loomD names i0 (marksT L q) (rowsD n d (L+1)) pn]:=by
  refine Re.trans (freezeRowsV boxO (loomO names i0 L vg pn) (marksC L q) n (L+1) vg d (L+1) (Nat.le_refl _)) ?_
  refine Re.trans (Re.freeze (T':=T) (s':=boxO::.cells 0 6 [.agg [.d (Rep.to names),.d (Rep.to i0),.own 2 0 0 L,.d (.sl 1 (rowsD n d (L+1))),.d (.int .i64 pn),.d .nilsl]]::.cells 0 1 (marksC L q)::.dead::rowsF n d (L+1) (L+1)) 3 vg 1 (gapF n (L+1) d (L+1)) rfl (FzL.refl _ _ _ _ _) ⟨by simp,?_⟩ rfl) ?_
  · intro j hj hne
    match j,hj,hne with
    | 0,_,_=>exact .inl rfl
    | 1,_,_ =>
      refine .inr ⟨0,6,_,_,rfl,rfl,rfl,fun i hi=>?_⟩
      simp at hi
      subst hi
      exact⟨rfl,Fz.refl _ _ _ _ _,Fz.refl _ _ _ _ _,Fz.refl _ _ _ _ _,fz_gapsV n (L+1) vg d,Fz.refl _ _ _ _ _,Fz.refl _ _ _ _ _,trivial⟩
    | 2,_,_=>exact .inl rfl
    | j+4,_,_=>exact .inl rfl
  refine Re.trans (Re.freeze (T':=T) (s':=boxO::loomD names i0 (marksT L q) (rowsD n d (L+1)) pn::.dead::.dead::rowsF n d (L+1) (L+1)) 2 0 1 (marksC L q) rfl (FzL.refl _ _ _ _ _) ⟨by simp,?_⟩ rfl) ?_
  · intro j hj hne
    match j,hj,hne with
    | 0,_,_=>exact .inl rfl
    | 1,_,_ =>
      refine .inr ⟨0,6,_,_,rfl,rfl,rfl,fun i hi=>?_⟩
      simp at hi
      subst hi
      exact⟨rfl,Fz.refl _ _ _ _ _,Fz.refl _ _ _ _ _,fz_marks L q,Fz.refl _ _ _ _ _,Fz.refl _ _ _ _ _,Fz.refl _ _ _ _ _,trivial⟩
    | 3,_,_=>exact .inl rfl
    | j+4,_,_=>exact .inl rfl
  refine Sub.re ⟨by simpa using hlo,?_,by simp,.inr ⟨by simpa using hT,rfl⟩⟩
  have:∀T:List A,SbL T T:=by
    intro T
    induction T with
    | nil=>trivial
    | cons x T ih=>exact⟨.inr (.inl rfl),ih⟩
  exact this T
def totF {α:Type} (f:Nat→List α):Nat→Nat→List α
  | _,0=>[]
  | j,d+1=>f j++totF f (j+1) d
theorem totF_succ {α:Type} (f:Nat→List α) (j d:Nat):totF f j (d+1)=f j++totF f (j+1) d:=rfl
theorem totF_add {α:Type} (f:Nat→List α):∀(a b j:Nat),totF f j (a+b)=totF f j a++totF f (j+a) b
  | 0,b,j=>by simp[totF]
  | a+1,b,j=>by
    rw[Nat.add_right_comm,totF,totF,totF_add f a b (j+1),List.append_assoc,show j+1+a=j+(a+1) by omega]
theorem totF_congr {α:Type} {f g:Nat→List α}:∀(d j:Nat),(∀k,j≤k→k<j+d→f k=g k)→totF f j d=totF g j d
  | 0,_,_=>rfl
  | d+1,j,h=>by
    rw[totF,totF,h j (by omega) (by omega),totF_congr d (j+1) fun k h1 h2=>h k (by omega) (by omega)]
theorem totF_range {α:Type} (f:Nat→List α):∀m,(List.range m).flatMap f=totF f 0 m
  | 0=>by simp[totF]
  | m+1=>by
    rw[List.range_succ,List.flatMap_append,totF_range f m,totF_add f m 1 0]
    simp[totF]
theorem totF_nil {α:Type} {f:Nat→List α} (d j:Nat) (h:∀k,j≤k→k<j+d→f k=[]):totF f j d=[]:=by
  rw[totF_congr (g:=fun _=>[]) d j h]
  have:∀(d j:Nat),totF (fun _=>([]:List α)) j d=[]:=by
    intro d
    induction d with
    | zero=>intro j;rfl
    | succ d ih=>intro j;rw[totF,ih];rfl
  exact this d j
theorem drop_cons {x:List Int} {i:Nat} (h:i<x.length):x.drop i=x.getD i 0::x.drop (i+1):=by
  rw[List.drop_eq_getElem_cons h]
  simp[List.getD,h]
theorem run_ok (x y:List Int):∀(d i j:Nat),i+d≤x.length→(∀t,t<d→x.getD (i+t) 0=y.getD (j+t) 0)→totF (fun k=>[y.getD k 0]) j d=(x.drop i).take d
  | 0,i,j,_,_=>by simp[totF]
  | d+1,i,j,h,ht=>by
    have h0:=ht 0 (by omega)
    simp only[Nat.add_zero] at h0
    rw[totF,run_ok x y d (i+1) (j+1) (by omega) fun t htd=>by rw[Nat.add_right_comm,Nat.add_right_comm j,Nat.add_assoc,Nat.add_assoc j];exact ht (t+1) (by omega),drop_cons (i:=i) (by omega),List.take_succ_cons,h0]
    rfl
theorem gapS_fold_none (x:List Int) (k:Nat):∀(l:List ChangeT) (acc:List Int),(∀d,d∈l→d.new≠(k:Int))→l.foldl (fun acc c=>if c.new=(k:Int) then (x.drop c.old.toNat).take c.oldLen.toNat else acc) acc=acc
  | [],_,_=>rfl
  | c::l,acc,h=>by
    rw[List.foldl_cons,if_neg (h c (by simp))]
    exact gapS_fold_none x k l acc fun d hd=>h d (by simp[hd])
theorem gapS_none {x:List Int} {l:List ChangeT} {k:Nat} (h:∀d,d∈l→d.new≠(k:Int)):gapS x l k=[]:=gapS_fold_none x k l [] h
theorem gapS_hit {x:List Int} {c:ChangeT} {l:List ChangeT} {k:Nat} (hc:c.new=(k:Int)) (h:∀d,d∈l→d.new≠(k:Int)):gapS x (c::l) k=(x.drop c.old.toNat).take c.oldLen.toNat:=by
  unfold gapS
  rw[List.foldl_cons,if_pos hc,gapS_fold_none x k l _ h]
theorem gapS_miss {x:List Int} {c:ChangeT} {l:List ChangeT} {k:Nat} (hc:c.new≠(k:Int)):gapS x (c::l) k=gapS x l k:=by
  unfold gapS
  rw[List.foldl_cons,if_neg hc]
theorem okV_lt {l:List ChangeT} {i j m n:Int} (h:okV l i j false m n=true):∀c,c∈l→j<c.new:=by
  cases l with
  | nil=>simp
  | cons c l =>
    simp only[okV,Bool.and_eq_true] at h
    have h2:=stepV_true h.1
    have h3:=okV_new _ _ _ _ _ _ h.2
    intro d hd
    have:=h2.2.2.2.2.2.2.2 rfl
    rcases List.mem_cons.1 hd with rfl | hd
    · omega
    · have:=h3.2 d hd
      omega
def pieceK (x y:List Int) (s:List ChangeT) (k:Nat):List Int:=gapS x s k++if k<y.length∧insB s k=false then [y.getD k 0] else []
theorem proj_ok (x y:List Int):∀(l:List ChangeT) (i j:Nat) (fst:Bool),okV l i j fst x.length y.length=true→(∀s,s∈matV l i j x.length→x.getD s.fr.toNat 0=y.getD s.to.toNat 0) →
    totF (pieceK x y l) j (y.length+1-j)=x.drop i
  | [],i,j,fst,h,hm=>by
    simp only[okV,Bool.and_eq_true,decide_eq_true_eq] at h
    have hd:y.length+1-j=(x.length-i)+1:=by omega
    rw[hd,totF_add,totF_nil (f:=pieceK x y []) 1 (j+(x.length-i)),List.append_nil,
      totF_congr (g:=fun k=>[y.getD k 0]),run_ok x y (x.length-i) i j (by omega),List.take_of_length_le (by simp)]
    · intro t ht
      have:=hm ⟨(i:Int)+t,(j:Int)+t⟩ ((runN_mem _ _ _ _).2 ⟨t,by omega,rfl⟩)
      simp only at this
      rw[show ((i:Int)+t).toNat=i+t by omega,show ((j:Int)+t).toNat=j+t by omega] at this
      exact this
    · intro k h1 h2
      unfold pieceK
      rw[if_pos ⟨by omega,rfl⟩]
      rfl
    · intro k h1 h2
      unfold pieceK
      rw[if_neg (by omega)]
      rfl
  | c::l,i,j,fst,h,hm=>by
    simp only[okV,Bool.and_eq_true] at h
    have h2:=stepV_true h.1
    have hn:=okV_new _ _ _ _ _ _ h.2
    have hlt:=okV_lt h.2
    obtain⟨o,ho⟩:=Int.eq_ofNat_of_zero_le h2.1.1
    obtain⟨ol,hol⟩:=Int.eq_ofNat_of_zero_le h2.2.1.1
    obtain⟨nw,hnw⟩:=Int.eq_ofNat_of_zero_le h2.2.2.1.1
    obtain⟨nl,hnl⟩:=Int.eq_ofNat_of_zero_le h2.2.2.2.1.1
    have hle:=okV_le _ _ _ _ _ _ h.2
    rw[hnw,hnl] at hlt
    rw[ho,hol,hnw,hnl] at h hn hle
    have hoi:i≤o:=by omega
    have hji:j≤nw:=by omega
    have hlen:o-i=nw-j:=by omega
    have ih:=proj_ok x y l (o+ol) (nw+nl) false (by push_cast;exact h.2) fun s hs=>hm s (by
      rw[matV,List.mem_append,ho,hol,hnw,hnl]
      right
      push_cast at hs
      exact hs)
    have hins:∀k,insB (c::l) k=(decide (c.new≤(k:Int)∧(k:Int)<c.new+c.newLen) || insB l k):=fun k=>by simp[insB]
    have hlow:∀k:Nat,(k:Int)<(nw+nl:Nat)→insB l k=false:=fun k hk=>insB_low h.2 (by push_cast at hk;exact hk)
    have hge:∀k,nw+nl≤k→k≠nw→pieceK x y (c::l) k=pieceK x y l k:=fun k hk hne=>by
      unfold pieceK
      rw[gapS_miss (by rw[hnw];omega),hins k]
      have:decide (c.new≤(k:Int)∧(k:Int)<c.new+c.newLen)=false:=by rw[hnw,hnl,decide_eq_false_iff_not];omega
      rw[this,Bool.false_or]
    have hgl:∀k:Nat,k≤nw+nl→∀d,d∈l→d.new≠(k:Int):=fun k hk d hd=>by
      have:=hlt d hd
      omega
    have hfirst:totF (pieceK x y (c::l)) j (nw-j)=(x.drop i).take (o-i):=by
      rw[totF_congr (g:=fun k=>[y.getD k 0]),← hlen,run_ok x y (o-i) i j (by omega)]
      · intro t ht
        have:=hm ⟨(i:Int)+t,(j:Int)+t⟩ (by
          rw[matV,List.mem_append,ho]
          exact .inl ((runN_mem _ _ _ _).2 ⟨t,by omega,rfl⟩))
        simp only at this
        rw[show ((i:Int)+t).toNat=i+t by omega,show ((j:Int)+t).toNat=j+t by omega] at this
        exact this
      · intro k h3 h4
        unfold pieceK
        rw[gapS_miss (by rw[hnw];omega),gapS_none (hgl k (by omega)),hins k,hlow k (by push_cast;omega)]
        have:decide (c.new≤(k:Int)∧(k:Int)<c.new+c.newLen)=false:=by rw[hnw,decide_eq_false_iff_not];omega
        rw[this,if_pos ⟨by omega,rfl⟩]
        rfl
    have hhit:gapS x (c::l) nw=(x.drop o).take ol:=by
      rw[gapS_hit hnw (hgl nw (by omega)),ho,hol]
      simp
    have hsecond:totF (pieceK x y (c::l)) nw (y.length+1-nw)=(x.drop o).take ol++x.drop (o+ol):=by
      rw[← ih]
      rcases Nat.eq_zero_or_pos nl with h0 | h0
      · subst h0
        show _=_++totF (pieceK x y l) nw (y.length+1-nw)
        rw[show y.length+1-nw=(y.length-nw)+1 by omega,totF_succ (pieceK x y (c::l)),totF_succ (pieceK x y l),totF_congr (g:=pieceK x y l) _ _ fun k h3 h4=>hge k (by omega) (by omega),← List.append_assoc]
        congr 1
        unfold pieceK
        rw[hhit,gapS_none (hgl nw (by omega)),hins nw]
        have:decide (c.new≤(nw:Int)∧(nw:Int)<c.new+c.newLen)=false:=by rw[hnw,hnl,decide_eq_false_iff_not];omega
        rw[this,Bool.false_or,List.nil_append]
      · rw[show y.length+1-nw=1+((nl-1)+(y.length+1-(nw+nl))) by omega,totF_add,totF_add,show nw+1+(nl-1)=nw+nl by omega]
        rw[totF_congr (g:=pieceK x y l) _ (nw+nl) fun k h3 h4=>hge k (by omega) (by omega)]
        rw[totF_nil (nl-1) (nw+1),List.nil_append]
        · congr 1
          rw[totF,totF,List.append_nil]
          unfold pieceK
          rw[hhit,hins nw]
          have:decide (c.new≤(nw:Int)∧(nw:Int)<c.new+c.newLen)=true:=by rw[hnw,hnl,decide_eq_true_eq];omega
          rw[this,if_neg (by simp),List.append_nil]
        · intro k h3 h4
          unfold pieceK
          rw[gapS_miss (by rw[hnw];omega),gapS_none (hgl k (by omega)),hins k]
          have:decide (c.new≤(k:Int)∧(k:Int)<c.new+c.newLen)=true:=by rw[hnw,hnl,decide_eq_true_eq];omega
          rw[this,if_neg (by simp)]
          rfl
    rw[show y.length+1-j=(nw-j)+(y.length+1-nw) by omega,totF_add,hfirst,show j+(nw-j)=nw by omega,hsecond]
    have e1:(x.drop o).take ol++x.drop (o+ol)=x.drop o:=by rw[← List.drop_drop,List.take_append_drop]
    have e2:x.drop o=(x.drop i).drop (o-i):=by rw[List.drop_drop];congr 1;omega
    rw[e1,e2,List.take_append_drop]
theorem proj_all {x y:List Int} (hx:x.length≤4096) (hy:y.length≤4096):(List.range (y.length+1)).flatMap (pieceK x y (scriptV x y))=x:=by
  have hf:=script_fits hx hy
  simp only[fitsV,checkV,Bool.and_eq_true,List.all_eq_true,decide_eq_true_eq] at hf
  have:=proj_ok x y (scriptV x y) 0 0 true hf.1.2 fun s hs=>hf.2 s hs
  rw[totF_range]
  simpa using this
/-! ### the columns -/
theorem markN_bit (I:List (List Int)) (k:Nat):∀(n p:Nat),(markN I k n).testBit p=(decide (p<n) && insB (scrV I p) k)
  | 0,p=>by simp[markN]
  | n+1,p=>by
    unfold markN
    have ih:=markN_bit I k n p
    cases hb:insB (scrV I n) k with
    | true =>
      rw[if_pos rfl,Nat.testBit_or,Nat.testBit_two_pow,ih]
      by_cases e:p=n
      · subst e;simp[hb]
      · have:decide (n=p)=false:=by simpa using fun h=>e h.symm
        have h2:decide (p<n+1)=decide (p<n):=by rw[decide_eq_decide];omega
        rw[this,h2,Bool.or_false]
    | false =>
      rw[if_neg (by simp),ih]
      by_cases e:p=n
      · subst e;simp[hb]
      · have h2:decide (p<n+1)=decide (p<n):=by rw[decide_eq_decide];omega
        rw[h2]
def nmV (N:List Str) (x:Int):Str:=N.getD x.toNat []
theorem vis_lost (N:List Str) (m:MergedT) {p:Nat} (hp:p<32):visB (lostRow N m) p=hasV p m:=by
  unfold visB hasV lostRow
  rw[if_neg (by omega),if_neg (by omega)]
  simp
theorem vis_kept (N:List Str) (I:List (List Int)) {n p:Nat} (hn:n≤32) (hp:p<n) (k:Nat):visB (keptRow N I n k) p=!insB (scrV I p) k:=by
  unfold visB keptRow
  rw[if_neg (by omega),if_neg (by omega)]
  have hlt:markN I k n<4294967296:=Nat.lt_of_lt_of_le (markN_lt I k n) (pow_le hn)
  simp only[getU_nat hlt (show p<32 by omega),markN_bit]
  cases insB (scrV I p) k <;> simp[hp]
theorem col_app (a b:List RowT) (c:Int):colV (a++b) c=colV a c++colV b c:=by simp[colV]
theorem col_lost (N:List Str) (ml:List MergedT) {p:Nat} (hp:p<32):colV (ml.map (lostRow N)) p=(prB p ml).map (nmV N):=by
  unfold colV prB mlinesV
  rw[List.filter_map,List.map_map,List.map_map]
  have e:((fun r=>visB r (p:Int)) ∘ lostRow N)=hasV p:=funext fun m=>vis_lost N m hp
  rw[e]
  rfl
theorem col_gap {N:List Str} {I:List (List Int)} {n B p:Nat} (h:∀p,p<n→(I.getD (p+1) []).length≤B) (hn:n≤32) (hB:B * n≤4096) (hp:p<n) (k:Nat) :
    colV (gapRows N I n k) p=(pieceK (I.getD (p+1) []) (I.getD 0 []) (scrV I p) k).map (nmV N):=by
  have h1:=sumL_gap h k
  obtain⟨_,h2⟩:=merged_ok (xs:=gapV I n k) (by rw[gapV_len];exact hn) (by omega)
  have h3:=h2.pr p (by rw[gapV_len];exact hp)
  have h4:(gapV I n k)[p]'(by rw[gapV_len];exact hp)=gapS (I.getD (p+1) []) (scrV I p) k:=by simp[gapV]
  rw[h4] at h3
  unfold gapRows pieceK
  rw[col_app,col_lost N _ (by omega),h3,List.map_append]
  congr 1
  by_cases hk:k<(I.getD 0 []).length
  · rw[if_pos hk]
    have hv:=vis_kept N I hn hp k
    unfold colV
    cases hb:insB (scrV I p) k with
    | true=>rw[hb] at hv;rw[if_neg (by simp)];simp[hv]
    | false =>
      rw[hb] at hv
      rw[if_pos ⟨hk,rfl⟩,List.filter_cons,hv]
      rfl
  · rw[if_neg hk,if_neg (by omega)]
    rfl
theorem col_flat (c:Int) (f:Nat→List RowT):∀l:List Nat,colV (l.flatMap f) c=l.flatMap fun k=>colV (f k) c
  | []=>rfl
  | a::l=>by rw[List.flatMap_cons,List.flatMap_cons,col_app,col_flat c f l]
theorem map_flat {α β:Type} (g:α→β) (f:Nat→List α):∀l:List Nat,(l.flatMap f).map g=l.flatMap fun k=>(f k).map g
  | []=>rfl
  | a::l=>by rw[List.flatMap_cons,List.flatMap_cons,List.map_append,map_flat g f l]
theorem col_parent {N:List Str} {I:List (List Int)} {n B p:Nat} (h:∀p,p<n→(I.getD (p+1) []).length≤B) (hn:n≤32) (hB:B * n≤4096) (hp:p<n) (h0:(I.getD 0 []).length≤4096) :
    colV (rowsTo N I n ((I.getD 0 []).length+1)) p=(I.getD (p+1) []).map (nmV N):=by
  have hx:=h p hp
  have hB2:(I.getD (p+1) []).length≤4096:=by
    have:B≤B * n:=Nat.le_mul_of_pos_right B (by omega)
    omega
  have:=proj_all hB2 h0
  unfold rowsTo
  rw[col_flat]
  have e:(fun k=>colV (gapRows N I n k) (p:Int))=fun k=>(pieceK (I.getD (p+1) []) (I.getD 0 []) (scrV I p) k).map (nmV N):=funext fun k=>col_gap h hn hB hp k
  rw[e,← map_flat]
  congr 1
theorem col_res0 (N:List Str) (I:List (List Int)) (n k:Nat):colV (gapRows N I n k) (-1)=if k<(I.getD 0 []).length then [nmV N ((I.getD 0 []).getD k 0)] else []:=by
  unfold gapRows
  rw[col_app]
  have e1:colV ((mergedV (gapV I n k)).map (lostRow N)) (-1)=[]:=by
    unfold colV
    rw[List.filter_eq_nil_iff.2]
    · rfl
    · intro r hr
      obtain⟨m,_,rfl⟩:=List.mem_map.1 hr
      simp[vis_res,lostRow]
  rw[e1,List.nil_append]
  by_cases hk:k<(I.getD 0 []).length
  · rw[if_pos hk,if_pos hk]
    simp[colV,vis_res,keptRow,nmV]
  · rw[if_neg hk,if_neg hk]
    rfl
theorem col_res (N:List Str) (I:List (List Int)) (n:Nat):colV (rowsTo N I n ((I.getD 0 []).length+1)) (-1)=(I.getD 0 []).map (nmV N):=by
  unfold rowsTo
  rw[col_flat]
  generalize hy:I.getD 0 []=y
  have e:∀k,colV (gapRows N I n k) (-1)=if k<y.length then [nmV N (y.getD k 0)] else []:=fun k=>by rw[col_res0,hy]
  rw[funext e,totF_range,totF_add,totF_nil 1,List.append_nil,totF_congr (g:=fun k=>([y.getD k 0]).map (nmV N))]
  · have:∀(d j:Nat),totF (fun k=>([y.getD k 0]).map (nmV N)) j d=(totF (fun k=>[y.getD k 0]) j d).map (nmV N):=by
      intro d
      induction d with
      | zero=>intro j;rfl
      | succ d ih=>intro j;rw[totF,totF,ih,List.map_append]
    rw[this,run_ok y y y.length 0 0 (by omega) (fun _ _=>rfl)]
    simp
  · intro k _ hk
    rw[if_pos (by omega)]
    rfl
  · intro k hk _
    rw[if_neg (by omega)]
theorem aw17a:checkTab ⟨2,[⟨false,0,[97,10]⟩,⟨true,1,[98,10]⟩,⟨false,1,[99,10]⟩]⟩=0:=by decide
theorem tab_wf {t:TableT} (h:Arg.wf t):tabBig t:=by
  have h2:Arg.wf t.rows:=h.2
  refine⟨len_wf h2,fun r hr=>?_,fun r hr=>str_wf (h2.2 r hr).2.2⟩
  have h3:=h2.2 r hr
  have h4:0≤r.marks∧r.marks≤4294967295:=h3.2.1
  exact⟨h4.1,by omega⟩
def pickN (n:Int):Nat:=(1+modV n 4).toNat
theorem pickN_in (n:Int):1≤pickN n∧pickN n≤4∧((pickN n:Nat):Int)=1+modV n 4:=by
  have:=modV_lt n (n:=4) (by omega)
  unfold pickN
  omega
theorem blobs_cons (raw:List Int) (n:Nat):∃b bs,blobsV raw (n+1) 7=b::bs∧bs.length=n∧b.length≤60∧∀x,x∈bs→x.length≤60:=by
  have hl:(blobsV raw (n+1) 7).length=n+1:=by simp[blobsV]
  have hm:∀x,x∈blobsV raw (n+1) 7→x.length≤60:=by
    intro x hx
    obtain⟨p,_,rfl⟩:=List.mem_map.1 hx
    have:=blobOne_len raw (lines:=7) (by omega) p
    omega
  cases h:blobsV raw (n+1) 7 with
  | nil=>rw[h] at hl;cases hl
  | cons b bs =>
    rw[h] at hl hm
    exact⟨b,bs,rfl,by simpa using hl,hm b (by simp),fun x hx=>hm x (by simp[hx])⟩
theorem linesV_leB {s:Str} {B:Nat} (h:s.length≤B):(linesV s).length≤B+1:=by
  have hc:s.count 10≤s.length:=List.count_le_length
  rw[linesV_len]
  split <;> omega
structure Small (r:Str) (ps:List Str) (B:Nat):Prop where
  hr:r.length≤B
  hp:∀p,p∈ps→p.length≤B
  n1:1≤ps.length
  n2:ps.length≤32
  b1:B≤100
  b2:(B+1) * ps.length≤4096
theorem Small.ids {r:Str} {ps:List Str} {B:Nat} (h:Small r ps B):∀p,p<ps.length→((idsV (filesV r ps)).getD (p+1) []).length≤B+1:=fun p hp=>by
  rw[idsV_getD (by rw[filesV_len];omega),List.length_map,filesV_succ r ps hp]
  exact linesV_leB (h.hp _ (List.getElem_mem hp))
theorem Small.ids0 {r:Str} {ps:List Str} {B:Nat} (h:Small r ps B):((idsV (filesV r ps)).getD 0 []).length≤B+1:=by
  rw[ids0_len]
  exact linesV_leB h.hr
theorem nm_place {N:List Str} {y:Str} (h:y∈N):nmV N (placeV N y)=y:=by
  obtain⟨k,hk,h1,h2⟩:=placeV_mem h
  unfold nmV
  rw[h1]
  simp[List.getD,hk,h2]
theorem nm_ids {r:Str} {ps:List Str} {p:Nat} (hp:p<(filesV r ps).length):((idsV (filesV r ps)).getD p []).map (nmV (namesV (filesV r ps)))=(filesV r ps)[p]:=by
  rw[idsV_getD hp,List.map_map]
  have:∀l:List Str,(∀y,y∈l→y∈namesV (filesV r ps))→l.map (nmV (namesV (filesV r ps)) ∘ placeV (namesV (filesV r ps)))=l:=fun l hl=>by
    rw[List.map_congr_left fun y hy=>show (nmV (namesV (filesV r ps)) ∘ placeV (namesV (filesV r ps))) y=y from nm_place (hl y hy)]
    exact List.map_id' l
  exact this _ fun y hy=>mem_names.2 ⟨_,List.getElem_mem hp,hy⟩
theorem make_col {r:Str} {ps:List Str} {B:Nat} (h:Small r ps B) {p:Nat} (hp:p<ps.length):colV (makeV r ps).rows p=linesV ps[p]:=by
  have h0:=h.ids0
  have:=col_parent (N:=namesV (filesV r ps)) h.ids h.n2 h.b2 hp (by have:=h.b1;omega)
  unfold makeV
  simp only
  rw[← ids0_len r ps,this,nm_ids (by rw[filesV_len];omega),filesV_succ r ps hp]
theorem make_res {r:Str} {ps:List Str}:colV (makeV r ps).rows (-1)=linesV r:=by
  unfold makeV
  simp only
  rw[← ids0_len r ps,col_res,nm_ids (by rw[filesV_len];omega),filesV_zero]
theorem make_row {r:Str} {ps:List Str} {x:RowT} (hx:x∈(makeV r ps).rows) :
    (∃k m,m∈mergedV (gapV (idsV (filesV r ps)) ps.length k)∧x=lostRow (namesV (filesV r ps)) m)∨∃k,∃h:k<(linesV r).length,x=⟨false,markN (idsV (filesV r ps)) k ps.length,(linesV r)[k]⟩:=by
  unfold makeV rowsTo at hx
  simp only[List.mem_flatMap,List.mem_range] at hx
  obtain⟨k,hk,hx⟩:=hx
  unfold gapRows at hx
  rcases List.mem_append.1 hx with hx | hx
  · obtain⟨m,hm,rfl⟩:=List.mem_map.1 hx
    exact .inl ⟨k,m,hm,rfl⟩
  · rw[ids0_len] at hx
    split at hx
    · rename_i hkl
      simp only[List.mem_singleton] at hx
      subst hx
      refine .inr ⟨k,hkl,?_⟩
      unfold keptRow
      rw[(kept_text r ps hkl).1]
    · cases hx
theorem listV_okL {l:List Str} (h:listV l=true) {x:Str} (hx:x∈l):okL x=true:=by
  rw[listV_last,Bool.and_eq_true,List.all_eq_true] at h
  exact h.1 x hx
theorem lost_text {r:Str} {ps:List Str} {B:Nat} (h:Small r ps B) {k:Nat} {m:MergedT} (hm:m∈mergedV (gapV (idsV (filesV r ps)) ps.length k)):∃p,p∈ps∧(lostRow (namesV (filesV r ps)) m).text∈linesV p:=by
  obtain⟨p,hp,hl⟩:=merged_line h.ids h.n2 h.b2 hm
  have hp1:p+1<(filesV r ps).length:=by rw[filesV_len];omega
  obtain⟨j,h1,h2,y,h3,h4,h5⟩:=id_name hp1 hl
  refine⟨ps[p],List.getElem_mem hp,?_⟩
  rw[filesV_succ r ps hp] at h3
  have:(lostRow (namesV (filesV r ps)) m).text=y:=by
    unfold lostRow
    rw[h1,Int.toNat_natCast]
    exact h4
  rw[this]
  exact h3
theorem lines_ok {s x:Str} (h:x∈linesV s):okL x=true∧x.length≤s.length:=by
  have h1:listV (linesV s)=true:=listV_lines s [] (by simp)
  refine⟨listV_okL h1 h,?_⟩
  obtain⟨i,hi,rfl⟩:=List.mem_iff_getElem.1 h
  have h2:=mem_flat_le hi
  have h3:(linesV s).flatten.length=s.length:=by rw[lines_flat]
  omega
theorem make_marks {r:Str} {ps:List Str} {B:Nat} (h:Small r ps B) {x:RowT} (hx:x∈(makeV r ps).rows):∃k:Nat,x.marks=k∧k<2 ^ ps.length∧(x.lost=true→0<k):=by
  rcases make_row hx with ⟨k,m,hm,rfl⟩ | ⟨k,hk,rfl⟩
  · obtain⟨_,h2⟩:=merged_ok (xs:=gapV (idsV (filesV r ps)) ps.length k) (by rw[gapV_len];exact h.n2) (by have:=sumL_gap h.ids k;have:=h.b2;omega)
    obtain⟨q,q1,q2,q3⟩:=h2.ok m hm
    rw[gapV_len] at q3
    exact⟨q,q1,q3,fun _=>q2⟩
  · exact⟨_,rfl,markN_lt _ _ _,fun h=>by cases h⟩
theorem make_text {r:Str} {ps:List Str} {B:Nat} (h:Small r ps B) {x:RowT} (hx:x∈(makeV r ps).rows):okL x.text=true∧x.text.length≤B:=by
  rcases make_row hx with ⟨k,m,hm,rfl⟩ | ⟨k,hk,rfl⟩
  · obtain⟨p,hp,h2⟩:=lost_text h hm
    obtain⟨h3,h4⟩:=lines_ok h2
    exact⟨h3,Nat.le_trans h4 (h.hp p hp)⟩
  · obtain⟨h3,h4⟩:=lines_ok (List.getElem_mem hk)
    exact⟨h3,Nat.le_trans h4 h.hr⟩
theorem rows_len2 {N:List Str} {I:List (List Int)} {n B:Nat} (h:∀p,p<n→(I.getD (p+1) []).length≤B) (hn:n≤32) (hB:B * n≤4096):∀k,(rowsTo N I n k).length≤(B * n+1) * k
  | 0=>by simp[rowsTo]
  | k+1=>by
    rw[rowsTo_succ,List.length_append,Nat.mul_succ]
    have h0:=rows_len2 (N:=N) h hn hB k
    have h1:=sumL_gap h k
    obtain⟨_,h2⟩:=merged_ok (xs:=gapV I n k) (by rw[gapV_len];exact hn) (by omega)
    have h3:=h2.len
    have h4:(gapRows N I n k).length≤B * n+1:=by
      unfold gapRows
      rw[List.length_append,List.length_map]
      split <;> simp <;> omega
    omega
theorem flen_leB {B:Nat}:∀rows:List RowT,(∀x,x∈rows→x.text.length≤B)→flen (rows.map RowT.text)≤B * rows.length
  | [],_=>by simp[flen]
  | x::r,h=>by
    have h1:=flen_leB r fun y hy=>h y (by simp[hy])
    have h2:=h x (by simp)
    unfold flen at *
    rw[List.map_cons,List.flatten_cons,List.length_append,List.length_cons,Nat.mul_succ]
    omega
theorem make_len {r:Str} {ps:List Str} {B:Nat} (h:Small r ps B):(makeV r ps).rows.length≤((B+1) * ps.length+1) * (B+2):=by
  have h1:=rows_len2 (N:=namesV (filesV r ps)) h.ids h.n2 h.b2 ((linesV r).length+1)
  have h2:=linesV_leB h.hr
  exact Nat.le_trans h1 (Nat.mul_le_mul_left _ (by omega))
theorem gapC_snoc (n k:Nat):gapC n k k++[.own (k+4) 0 0 n]=gapC n (k+1) (k+1):=by
  unfold gapC
  rw[List.range_succ,List.map_append]
  congr 1
  · exact List.map_congr_left fun j hj=>by
      have hj:j<k:=by simpa using hj
      rw[if_pos hj,if_pos (by omega)]
  · simp
theorem split_small {s:Str} (h:s.length≤100):splitD s=.tup [Rep.to (linesV s),.int .i64 0]:=by
  have ck:checkT s=0:=check_of (by omega) (by have:s.count 10≤s.length:=List.count_le_length;omega)
  unfold splitD
  rw[if_pos ck]
theorem marksC_ren (L:Nat) (q:Nat→Nat) (f:Nat→Nat):(marksC L q).map (A.ren f)=marksC L q:=by
  unfold marksC
  rw[List.map_map]
  rfl
def tkF (F:List (List Str)) (i:Nat):List (List Str):=F.take i
theorem tkF_succ {F:List (List Str)} {i:Nat} (h:i<F.length):tkF F (i+1)=tkF F i++[F[i]]:=List.take_succ_eq_append_getElem h
theorem tkF_len {F:List (List Str)} {i:Nat} (h:i≤F.length):(tkF F i).length=i:=by simp[tkF];omega
def allC (l:List Str):List A:=l.map fun x=>.d (.str x)
theorem allC_len (l:List Str):(allC l).length=l.length:=by simp[allC]
theorem allC_under (l:List Str) (n:Nat):∀x,x∈allC l→A.under n x=true:=by
  intro x hx
  obtain⟨y,_,rfl⟩:=List.mem_map.1 hx
  rfl
theorem allC_get {l:List Str} {i:Nat} (h:i<l.length):(allC l)[i]?=some (.d (.str l[i])):=by simp[allC,h]
def loomK (N:List Str) (i0:List Int) (n L k:Nat):Store :=
  boxO::.cells 0 6 [.agg [.d (Rep.to N),.d (Rep.to i0),.own 2 0 0 L,.own 3 k 0 k,.d (.int .i64 n),.d .nilsl]]::.cells 0 1 (marksC L fun _=>0)::.cells k 1 (gapC n k k)::rowsO n (fun _ _=>.nilsl) k
theorem loomK_len (N:List Str) (i0:List Int) (n L k:Nat):(loomK N i0 n L k).length=k+4:=by simp[loomK,rowsO_len]
theorem loomK_under (N:List Str) (i0:List Int) (n L k:Nat):(loomK N i0 n L k).all (Ob.under (k+4))=true:=by
  have h1:=marksC_under L (fun _=>0) (k+4)
  have h2:=gapC_under n k k (N:=k+4) (by omega)
  have h3:=rowsO_under n (fun _ _=>.nilsl) k (k+4)
  unfold loomK
  rw[List.all_cons,List.all_cons,List.all_cons,List.all_cons,h3]
  simp only[Ob.under,h1,h2,Bool.and_true]
  simp[boxO]
theorem flat_congr {α:Type} {f g:Nat→List α}:∀l:List Nat,(∀k,k∈l→f k=g k)→l.flatMap f=l.flatMap g
  | [],_=>rfl
  | a::l,h=>by rw[List.flatMap_cons,List.flatMap_cons,h a (by simp),flat_congr l fun k hk=>h k (by simp[hk])]
@[simp] def S_weave_Make:List D→Prop × D:=spec2 (α:=Str) (β:=List Str) (fun r ps=>r.length≤100∧∀p,p∈ps→p.length≤100) (fun r ps=>makeD r ps)
theorem ct_weave_Make {P:Program} {f g1 g2 g3 g4 g5:Nat} {G:Gam} (h:CodeOf P f 2 28 [22002,3] (x_weave_Make g1 g2 g3 g4 g5)) (hG:GamOk P G) (h1:G.find g1=some S_text_Split) (h2:G.find g2=some S_intern_Ids) (h3:G.find g3=some S_intern_Names) (h4:G.findR g4=some R_weave_loom_add) (h5:G.findR g5=some R_weave_loom_weave):Has P f S_weave_Make:=h.has2 hG fun r ps hp=>by
  obtain⟨p1,p2⟩:=hp
  by_cases c1:(ps.length:Int)<1
  · have:makeD r ps=.tup [Rep.to (⟨0,[]⟩:TableT),.int .i64 2]:=by unfold makeD;rw[if_pos (by omega)]
    simp[x_weave_Make,c1,this]
  by_cases c2:32<(ps.length:Int)
  · have:makeD r ps=.tup [Rep.to (⟨0,[]⟩:TableT),.int .i64 2]:=by unfold makeD;rw[if_pos (by omega)]
    simp[x_weave_Make,c1,c2,this]
  have hmk:makeD r ps=.tup [Rep.to (makeV r ps),.int .i64 0]:=by unfold makeD;rw[if_neg (by omega)]
  rw[hmk]
  have hsmall:Small r ps 100:=⟨p1,p2,by omega,by omega,by omega,by omega⟩
  have hIl:=hsmall.ids
  have hI0l:=hsmall.ids0
  have hFl:=filesV_len r ps
  have hIlen:(idsV (filesV r ps)).length=(filesV r ps).length:=by simp[idsV]
  have hall:∀p,p∈r::ps→p.length≤100:=fun p hp=>by
    rcases List.mem_cons.1 hp with rfl | hp
    · exact p1
    · exact p2 p hp
  have hsm:smallL (filesV r ps):=by
    refine⟨by omega,?_⟩
    have key:∀l:List (List Str),(∀x,x∈l→x.length≤101)→l.flatten.length≤101 * l.length:=by
      intro l
      induction l with
      | nil=>simp
      | cons x r ih =>
        intro hx
        have:=hx x (by simp)
        have:=ih fun y hy=>hx y (by simp[hy])
        simp
        simp at this
        omega
    have:=key (filesV r ps) fun x hx=>by
      obtain⟨y,hy,rfl⟩:=List.mem_map.1 hx
      exact linesV_leB (hall y hy)
    omega
  have hps:ps≠[]:=by rintro rfl;simp at c1
  simp[x_weave_Make,c1,c2,hps]
  have hn1:0<ps.length:=by omega
  refine⟨by unfold room;omega,?_⟩
  refine vc_lp (σ:=Nat) (fun i=>i≤ps.length+1) (fun i=>ps.length+1-i)
    (fun i=>[.any,.any,.ref 0 0 0 0,.any,.d (.int .i64 ps.length),.gr 1 1 ((tkF (filesV r ps) i).map Rep.to),.any,.any,.any,.any,.any,.any,.any,.any,.any,.own 2 1 0 (ps.length+1),.d (.int .i64 ((ps.length:Int)+1)),.d (.int .i64 i),.any,.any,.any,.any,.any,.any,.any,.any,.any,.any])
    (fun i=>[.cells 0 2 [.d (.agg [.int .i64 0,.nilsl])],.tip i,.cells 1 1 (allC (r::ps))]) 0 (by simp[tkF];omega) (by simp[allC]) (by simp) ?_ (hc:=.inr ⟨by simp,by simpa using allC_under _ _⟩)
  intro i hi
  by_cases hk:i<ps.length+1
  · have w1:IntKind.i64.wrap ((i:Int)+1)=(i:Int)+1:=wrap_in (by omega) (by omega)
    have hil:i<(r::ps).length:=by simpa using hk
    have hpi:=hall _ (List.getElem_mem hil)
    have hsp:=split_small hpi
    have hag:=allC_get hil
    have hal:(allC (r::ps)).length=ps.length+1:=by simp[allC_len]
    have hiF:i<(filesV r ps).length:=by omega
    have hs:=tkF_succ hiF
    have hFi:(filesV r ps)[i]=linesV (r::ps)[i]:=List.getElem_map _
    rw[hFi] at hs
    clear hFi
    generalize hx:(r::ps)[i]=x at *
    have hag2:∀h:i<(allC (r::ps)).length,(allC (r::ps))[i]'h=.d (.str x):=fun h=>by obtain⟨_,h9⟩:=List.getElem?_eq_some_iff.1 hag;exact h9
    have hfl:(tkF (filesV r ps) i).length=i:=tkF_len (by omega)
    simp[show (i:Int)<(ps.length:Int)+1 by omega,hag,hag2,hal,hk,h1,hsp,w1,hfl,show x.length≤4194304 by omega]
    exact⟨by unfold room;omega,Nxt.mk (i+1) (by omega) (by simp[hs]) (by simp) (by omega) (by simp) (.inr ⟨by simp,by simpa using allC_under _ _⟩)⟩
  · have h9:i=ps.length+1:=by omega
    subst h9
    have htk:tkF (filesV r ps) (ps.length+1)=filesV r ps:=List.take_of_length_le (by omega)
    rw[htk]
    have hkt:=fun k hk=>kept_text r ps (k:=k) hk
    have hL:((idsV (filesV r ps)).getD 0 []).length=(linesV r).length:=ids0_len r ps
    have hIm:∀p,p<ps.length→∀x,x∈(idsV (filesV r ps)).getD (p+1) []→∃k:Nat,x=k∧k<(namesV (filesV r ps)).length:=fun p hp x hx=>by
      obtain⟨k,e1,e2,_⟩:=id_name (files:=filesV r ps) (p:=p+1) (by rw[hFl];omega) hx
      exact⟨k,e1,e2⟩
    have hIm0:∀x,x∈(idsV (filesV r ps)).getD 0 []→∃k:Nat,x=k∧k<(namesV (filesV r ps)).length:=fun x hx=>by
      obtain⟨k,e1,e2,_⟩:=id_name (files:=filesV r ps) (p:=0) (by rw[hFl];omega) hx
      exact⟨k,e1,e2⟩
    clear hkt
    have hmv:makeV r ps=⟨ps.length,rowsTo (namesV (filesV r ps)) (idsV (filesV r ps)) ps.length ((linesV r).length+1)⟩:=rfl
    rw[hmv,← hL]
    generalize hI:idsV (filesV r ps)=I at *
    generalize hN:namesV (filesV r ps)=N at *
    generalize filesV r ps=F at *
    generalize hn:ps.length=n at *
    have hI0:0<I.length:=by omega
    have hgI:I.getD 0 []=I[0]:=by simp[List.getD,hI0]
    rw[hgI] at hI0l hIm0 ⊢
    obtain⟨i0,hi0⟩:∃i0,I[0]=i0:=⟨_,rfl⟩
    rw[hi0] at hI0l hIm0 ⊢
    obtain⟨L,hLL⟩:∃L,i0.length=L:=⟨_,rfl⟩
    rw[hLL] at hI0l ⊢
    have wL:IntKind.i64.wrap ((L:Int)+1)=(L:Int)+1:=wrap_in (by omega) (by omega)
    simp[h2,h3,hsm,hI,hN,hI0,getD_map,hi0,hLL,wL]
    refine⟨⟨by unfold room;omega,by omega⟩,?_⟩
    refine vc_lpR (σ:=Nat) (fun k=>k≤L+1) (fun k=>L+1-k)
      (fun k=>[.any,.any,.ref 0 0 0 0,.any,.d (.int .i64 n),.any,.any,.any,.any,.d (Rep.to I),.ref 1 0 0 0,.any,.any,.any,.any,.any,.any,.any,.any,.any,.d (.int .i64 ((L:Int)+1)),.d (.int .i64 k),.any,.any,.any,.any,.any,.any])
      (fun k=>boxO::.cells 0 6 [.agg [.d (Rep.to N),.d (Rep.to i0),.own 2 0 0 L,.own 3 k 0 k,.d (.int .i64 n),.d .nilsl]]::.cells 0 1 (marksC L fun _=>0)::.cells k 1 (gapC n k k)::rowsO n (fun _ _=>.nilsl) k) 0 ?_ (by simp) ?_
    · have e1:List.replicate L (A.d (D.int .u32 0))=marksC L fun _=>0:=by
        apply List.ext_getElem
        · simp[marksC]
        · intro a b c;simp[marksC]
      rw[e1]
      refine Re.norm (s':=[boxO,.cells 0 6 [.agg [.d (Rep.to N),.d (Rep.to i0),.own 2 0 0 L,.own 3 0 0 0,.d (.int .i64 n),.d .nilsl]],.cells 0 1 (marksC L fun _=>0)]) [false,false,true,false,true,false,false,false,false,true,true,false,false,false,false,false,false,false,false,false,true,true] [0,4,3] [.cells 0 1 []] (by simp) ⟨by decide,by simp,?_⟩ (by decide) (by simp) ?_ ?_ ?_ ?_
      · simp[pickS]
        intro x hx
        obtain⟨k,_,rfl⟩:=List.mem_map.1 hx
        rfl
      · simp
      · simp
      · simp[pickS]
        rw[marksC_ren]
        refine⟨.inl rfl,.cellsL ?_,.inl rfl⟩
        simp
        exact Wk.freshO 3 [.cells 0 1 []] 1 0 rfl
      · simp[rowsO,gapC]
    intro k hk
    by_cases hkl:k<L+1
    · have w1:IntKind.i64.wrap ((k:Int)+1)=(k:Int)+1:=wrap_in (by omega) (by omega)
      have hgl:=gapC_len n k k
      have hrl:=rowsO_len n (fun _ _=>.nilsl) k
      have hgs:=gapC_snoc n k
      have hrs:=rowsO_succ n (fun _ _=>.nilsl) k
      have hrg:rowG n (fun _ _=>.nilsl) k=List.replicate n (A.d D.nilsl):=by
        apply List.ext_getElem
        · simp[rowG]
        · intro a b c;simp[rowG]
      rw[hrg] at hrs
      simp[show (k:Int)<(L:Int)+1 by omega,w1,hgl,hrl,hgs,boxO]
      refine⟨⟨by unfold room;omega,by omega⟩,by unfold room;omega,Nxt.mk (k+1) (by omega) (by simp) ?_ (by omega) (by simp) (.inr ⟨by simp,?_⟩)⟩
      · have e:∀x y z:Ob,rowsO n (fun _ _=>.nilsl) k++[x,y,z]=(rowsO n (fun _ _=>.nilsl) k++[x])++[y,z]:=fun x y z=>by simp
        rw[e,← hrs]
        simp[SbS_app,boxO]
      · have hl:∀s':Store,s'=loomK N i0 n L (k+1)→s'.all (Ob.under s'.length)=true:=fun s' h=>by
          subst h
          rw[loomK_len]
          exact loomK_under _ _ _ _ _
        exact hl _ rfl
    · have h9:k=L+1:=by omega
      subst h9
      have hls:∀s',s'=loomS N i0 n L (fun k=>markN I k 0) (dAt I 0 0) (L+1) n→(boxO::.cells 0 6 [.agg [.d (Rep.to N),.d (Rep.to i0),.own 2 0 0 L,.own 3 (L+1) 0 (L+1),.d (.int .i64 n),.d .nilsl]]::.cells 0 1 (marksC L fun _=>0)::.cells (L+1) 1 (gapC n (L+1) (L+1))::rowsO n (fun _ _=>.nilsl) (L+1))=s':=fun s' h=>by
        subst h
        unfold loomS loomO
        rw[marksC_congr (q:=fun k=>markN I k 0) (r:=fun _=>0) fun k _=>rfl,rowsO_congr2 (d:=dAt I 0 0) (e:=fun _ _=>.nilsl) fun q j _ _=>dAt_start I q j]
      rw[hls _ rfl]
      simp
      refine vc_lp (σ:=Nat) (fun p=>p≤n) (fun p=>n-p)
        (fun p=>[.any,.any,.ref 0 0 0 0,.any,.d (.int .i64 n),.any,.any,.any,.any,.d (Rep.to I),.ref 1 0 0 0,.any,.any,.any,.any,.any,.any,.any,.any,.any,.any,.any,.any,.d (.int .i64 n),.d (.int .i64 p),.any,.any,.any])
        (fun p=>loomS N i0 n L (fun k=>markN I k p) (dAt I p 0) (L+1) n) 0 (by simp) (by simp) (by simp) ?_ (hc:=.inl (by simp))
      intro p hp
      by_cases hpn:p<n
      · have w1:IntKind.i64.wrap ((p:Int)+1)=(p:Int)+1:=wrap_in (by omega) (by omega)
        have hpI:p+1<I.length:=by omega
        have hgp:I.getD (p+1) []=I[p+1]:=by simp[List.getD,hpI]
        have hxl:I[p+1].length≤4096:=by
          have:=hIl p hpn
          rw[hgp] at this
          omega
        have hscr:scriptV I[p+1] i0=scrV I p:=by unfold scrV;rw[hgp,hgI,hi0]
        have hcall:=eR_loom_add (f:=g4) h4 (names:=N) (i0:=i0) (n:=n) (L:=L) (q:=fun k=>markN I k p) (d:=dAt I p 0) (vg:=L+1) (pn:=n) (p:=p) (x:=I[p+1]) hxl hLL (by omega) hpn (by omega) (fun k _=>Nat.lt_of_lt_of_le (markN_lt I k p) (pow_le (by omega))) fun k _=>by
          unfold dAt
          rw[if_neg (by omega),if_pos rfl,List.take_zero]
          rfl
        have hnext:loomS N i0 n L (addQ (scriptV I[p+1] i0) p fun k=>markN I k p) (addD I[p+1] (scriptV I[p+1] i0) p (dAt I p 0)) (L+1) n=loomS N i0 n L (fun k=>markN I k (p+1)) (dAt I (p+1) 0) (L+1) n:=by
          rw[hscr]
          refine loomS_congr (fun k _=>?_) fun r k _ _=>?_
          · unfold addQ
            rw[markN]
          · unfold addD dAt
            by_cases h:r=p
            · subst h
              rw[if_pos rfl,if_pos (by omega),hgp]
            · rw[if_neg h]
              by_cases h2:r<p
              · rw[if_pos h2,if_pos (by omega)]
              · rw[if_neg h2,if_neg h,if_neg (by omega)]
                split <;> rfl
        rw[hnext] at hcall
        simp[show (p:Int)<n by omega,w1,hpI,getD_map,hcall]
        exact⟨by omega,Nxt.mk (p+1) (by omega) (by simp) (by simp) (by omega) (by simp) (.inl (by simp))⟩
      · have h9:p=n:=by omega
        subst h9
        simp
        refine Hint.of (T':=[.any,.any,.ref 0 0 0 0,.any,.d (.int .i64 p),.any,.any,.any,.any,.d (Rep.to I),.ref 1 0 0 0,.any,.any,.any,.any,.any,.any,.any,.any,.any,.any,.any,.any,.any,.any,.any,.any,.any]) (s':=[boxO,loomD N i0 (marksT L fun k=>markN I k p) (rowsD p (dAt I p 0) (L+1)) p]) (Re.trans (Sub.re (T':=[.any,.any,.ref 0 0 0 0,.any,.d (.int .i64 p),.any,.any,.any,.any,.d (Rep.to I),.ref 1 0 0 0,.any,.any,.any,.any,.any,.any,.any,.any,.any,.any,.any,.any,.any,.any,.any,.any,.any]) ⟨by simp,by simp,by simp,.inl rfl⟩) (freezeLoom (by omega) (by simp) N i0 p L (fun k=>markN I k p) (dAt I p 0) (L+1) p)) ?_
        have hBn:(100+1) * p≤4096:=by omega
        have hp32:p≤32:=by omega
        have hof:=fun k=>rowD_of I p k
        have hwv:weaveTo N i0 (marksT L fun k=>markN I k p) (rowsD p (dAt I p 0) (L+1)) (L+1)=rowsTo N I p (L+1):=by
          unfold weaveTo rowsTo
          refine flat_congr _ fun k hk=>?_
          have hk:k<L+1:=by simpa using hk
          have hgd:(rowsD p (dAt I p 0) (L+1)).getD k .nilsl=.sl 1 (rowD p (dAt I p 0) k):=by
            have:=rowsD_get (n:=p) (d:=dAt I p 0) (m:=L+1) (k:=k) hk
            simp[List.getD,this]
          have hdd:ofDD (.sl 1 (rowD p (dAt I p 0) k))=gapV I p k:=by
            show (if 1=1 then ofAll (Rep.of (α:=List Int)) (rowD p (dAt I p 0) k) else none).getD []=_
            rw[if_pos rfl,hof k]
            rfl
          unfold weaveRow gapRows
          rw[hgd,hdd,hgI,hi0,hLL]
          congr 1
          by_cases hkL:k<L
          · rw[if_pos hkL,if_pos hkL]
            unfold keptRow
            have:(marksT L fun k=>markN I k p).getD k default=⟨markN I k p⟩:=by simp[marksT,List.getD,hkL]
            rw[this,hgI,hi0]
          · rw[if_neg hkL,if_neg hkL]
        have hok:WeaveOk ⟨N,i0,marksT L fun k=>markN I k p,rowsD p (dAt I p 0) (L+1),p,0⟩:=by
          refine⟨by simp[rowsD,hLL],by simp[marksT,hLL],by simp only;omega,fun k hk=>?_,fun k hk=>?_⟩
          · simp only[rowsD,List.length_map,List.length_range] at hk
            refine⟨rowD p (dAt I p 0) k,gapV I p k,by simp[rowsD],hof k,by rw[gapV_len];exact hp32,Nat.le_trans (sumL_gap hIl k) hBn,fun m hm=>?_⟩
            obtain⟨b,hb,hbm⟩:=merged_line hIl hp32 hBn hm
            exact hIm b hb _ hbm
          · exact hIm0 _ (List.getElem_mem _)
        have hml:(marksT L fun k=>markN I k p).length=L:=by simp[marksT]
        generalize (marksT L fun k=>markN I k p)=mt at *
        generalize rowsD p (dAt I p 0) (L+1)=gd at *
        simp[loomD,boxO,h5,eRCall,hLL,hok,hwv]
theorem row_ext {a b:RowT}:a=b↔a.lost=b.lost∧a.marks=b.marks∧a.text=b.text:=by
  constructor
  · rintro rfl;exact⟨rfl,rfl,rfl⟩
  · rintro⟨h1,h2,h3⟩
    cases a;cases b
    simp_all
@[simp] def S_gen_Rows:List D→Prop × D:=spec2 (α:=List RowT) (β:=List RowT) (fun a _=>a.length≤9223372036854775807) (fun a b=>.bool (decide (a=b)))
theorem ct_gen_Rows {P:Program} {f:Nat} {G:Gam} (h:CodeOf P f 2 7 [2] x_gen_Rows) (hG:GamOk P G):Has P f S_gen_Rows:=h.has2 hG fun a b h=>by
  by_cases hl:a.length=b.length
  · simp[x_gen_Rows,hl]
    refine vc_lp (σ:=Nat) (fun i=>i≤a.length∧∀k (h:k<a.length) (h2:k<b.length),k<i→a[k]=b[k]) (fun i=>a.length-i) (fun i=>[.d (Rep.to a),.d (Rep.to b),.any,.d (.int .i64 i),.any,.any,.any]) (fun _=>[]) 0 (by simp) (by simp) ⟨by simp,by simp⟩ ?_
    rintro i ⟨hi,hm⟩
    by_cases hia:i<a.length
    · have hib:i<b.length:=by omega
      have w1:IntKind.i64.wrap ((i:Int)+1)=(i:Int)+1:=wrap_in (by omega) (by omega)
      by_cases e:a[i]=b[i]
      · obtain⟨e1,e2,e3⟩:=row_ext.1 e
        have hnx:∀k (h:k<a.length) (h2:k<b.length),k<i+1→a[k]=b[k]:=fun k h h2 hk=>by
          by_cases hki:k=i
          · subst hki;exact e
          · exact hm k h h2 (by omega)
        simp[hia,hib,show i<b.length from hib,getD_map,pairsOk,eSeq,cellsEq,cellEq,e,w1]
        exact Nxt.mk (i+1) (by omega) (by simp) (by simp) ⟨by omega,hnx⟩
      · have hne:¬(a=b):=fun h=>e (by simp only[h])
        have hc:¬(a[i].lost=b[i].lost∧a[i].marks=b[i].marks∧a[i].text=b[i].text):=fun h=>e (row_ext.2 h)
        simp[hia,hib,getD_map,pairsOk,eSeq,cellsEq,cellEq,hne]
        exact fun x y z=>absurd ⟨x,y,z⟩ hc
    · have h9:i=a.length:=by omega
      subst h9
      have:a=b:=List.ext_getElem hl fun k k1 k2=>hm k k1 k2 k1
      simp[hl,this]
  · have hne:¬(a=b):=fun h=>hl (by rw[h])
    simp[x_gen_Rows,show ¬((a.length:Int)=b.length) by omega,hne]
@[simp] def S_gen_Table:List D→Prop × D:=spec2 (α:=TableT) (β:=TableT) (fun a _=>a.rows.length≤9223372036854775807) (fun a b=>.bool (decide (a=b)))
theorem ct_gen_Table {P:Program} {f g1:Nat} {G:Gam} (h:CodeOf P f 2 5 [4] (x_gen_Table g1)) (hG:GamOk P G) (h1:G.find g1=some S_gen_Rows):Has P f S_gen_Table:=h.has2 hG fun a b h=>by
  obtain⟨pa,ra⟩:=a
  obtain⟨pb,rb⟩:=b
  have h:ra.length≤9223372036854775807:=h
  have e:(TableT.mk pa ra=TableT.mk pb rb)=(pa=pb∧ra=rb):=by simp
  by_cases hp:pa=pb
  · simp[x_gen_Table,h1,h,hp]
  · simp[x_gen_Table,h1,h,hp]
@[simp] def S_weave_Visible:List D→Prop × D:=spec2 (α:=RowT) (β:=Int) (fun _ _=>True) (fun r c=>.bool (visB r c))
theorem ct_weave_Visible {P:Program} {f:Nat} {G:Gam} (h:CodeOf P f 2 6 [3] x_weave_Visible) (hG:GamOk P G):Has P f S_weave_Visible:=h.has2 hG fun r c _=>by
  by_cases c1:c < -1
  · have:visB r c=false:=by unfold visB;rw[if_neg (by omega),if_pos (by omega)]
    simp[x_weave_Visible,c1,this]
  by_cases c2:32≤c
  · have:visB r c=false:=by unfold visB;rw[if_neg (by omega),if_pos (by omega)]
    simp[x_weave_Visible,c1,c2,this]
  by_cases c3:c<0
  · have:visB r c=!r.lost:=by unfold visB;rw[if_pos (by omega)]
    simp[x_weave_Visible,c1,c2,c3,this]
  · obtain⟨n,rfl⟩:=Int.eq_ofNat_of_zero_le (show 0≤c by omega)
    have:visB r n=(decide (getU r.marks n=1) == r.lost):=by unfold visB;rw[if_neg (by omega),if_neg (by omega)]
    have e:getU r.marks n=IntKind.u32.wrap ↑((r.marks.fdiv (2 ^ min n IntKind.u32.bits) % 2 ^ IntKind.u32.bits).toNat &&& 1 % 2 ^ IntKind.u32.bits):=rfl
    simp[x_weave_Visible,c1,c2,c3,this,← e]
    cases r.lost <;> simp
@[simp] def S_ref09_Lines:List D→Prop × D:=spec2 (α:=List Str) (β:=List Str) (fun a b=>a.length≤4096∧b.length≤4096) (fun a b=>Rep.to (scriptV ((idsV [a,b]).getD 0 []) ((idsV [a,b]).getD 1 [])))
theorem ct_ref09_Lines {P:Program} {f g1 g2:Nat} {G:Gam} (h:CodeOf P f 2 4 [2] (x_ref09_Lines g1 g2)) (hG:GamOk P G) (h1:G.find g1=some S_ref03_Ids) (h2:G.find g2=some S_ref09_Walk):Has P f S_ref09_Lines:=h.has2 hG fun a b hp=>by
  obtain⟨p1,p2⟩:=hp
  have hsm:smallL [a,b]:=⟨by simp,by simp;omega⟩
  have hi:idsV [a,b]=[a.map (placeV (namesV [a,b])),b.map (placeV (namesV [a,b]))]:=rfl
  simp[x_ref09_Lines,h1,h2,hsm,hi,p1,p2]
def blobsD (a b:Str):D:=if checkT a=0 then (if checkT b=0 then .tup [Rep.to (scriptV ((idsV [linesV a,linesV b]).getD 0 []) ((idsV [linesV a,linesV b]).getD 1 [])),.int .i64 0] else .tup [.nilsl,.int .i64 1]) else .tup [.nilsl,.int .i64 1]
@[simp] def S_ref09_Blobs:List D→Prop × D:=spec2 (α:=Str) (β:=Str) (fun a b=>a.length≤4194304∧b.length≤4194304) (fun a b=>blobsD a b)
theorem checkT_lines {s:Str} (h:checkT s=0):(linesV s).length≤4096:=by
  unfold checkT at h
  split at h
  · rename_i h2;exact h2.2
  · cases h
theorem ct_ref09_Blobs {P:Program} {f g1 g2:Nat} {G:Gam} (h:CodeOf P f 2 9 [2,3] (x_ref09_Blobs g1 g2)) (hG:GamOk P G) (h1:G.find g1=some S_ref02_Split) (h2:G.find g2=some S_ref09_Lines):Has P f S_ref09_Blobs:=h.has2 hG fun a b hp=>by
  obtain⟨p1,p2⟩:=hp
  by_cases c1:checkT a=0
  · have:=checkT_lines c1
    by_cases c2:checkT b=0
    · have:=checkT_lines c2
      simp[x_ref09_Blobs,h1,h2,splitD,c1,c2,p1,p2,blobsD, *]
    · simp[x_ref09_Blobs,h1,h2,splitD,c1,c2,p1,p2,blobsD]
  · simp[x_ref09_Blobs,h1,h2,splitD,c1,p1,p2,blobsD]
def pickP (raw:List Int) (n:Int):Str × List Str:=((blobsV raw (pickN n+1) 7).getD 0 [],(blobsV raw (pickN n+1) 7).drop 1)
@[simp] def S_law16_pick:List D→Prop × D:=spec2 (α:=List Int) (β:=Int) (fun raw _=>raw.length≤9223372036854775807) (fun raw n=>.tup [Rep.to (pickP raw n).1,Rep.to (pickP raw n).2])
theorem ct_law16_pick {P:Program} {f g1 g2:Nat} {G:Gam} (h:CodeOf P f 2 5 [2,3] (x_law16_pick g1 g2)) (hG:GamOk P G) (h1:G.find g1=some S_gen_Mod) (h2:G.find g2=some S_gen_Blobs):Has P f S_law16_pick:=h.has2 hG fun raw n hp=>by
  obtain⟨n1,n2,n3⟩:=pickN_in n
  have w0:IntKind.i64.wrap (2+modV n 4)=((pickN n+1:Nat):Int):=by rw[wrap_in (by omega) (by omega)];push_cast;omega
  obtain⟨b,bs,hb,hbl,hb1,hb2⟩:=blobs_cons raw (pickN n)
  have htk:List.take bs.length (List.map (Rep.to (α:=Str)) bs)=List.map Rep.to bs:=List.take_of_length_le (by simp)
  have hpk:pickP raw n=(b,bs):=by unfold pickP;rw[hb];rfl
  simp[x_law16_pick,h1,h2,w0,hp,hb,htk,hpk,show ((pickN n:Nat):Int)+1≤1000 by omega]
  omega
theorem pickP_ok (raw:List Int) (n:Int):Small (pickP raw n).1 (pickP raw n).2 60∧(pickP raw n).2.length=pickN n:=by
  obtain⟨n1,n2,n3⟩:=pickN_in n
  obtain⟨b,bs,hb,hbl,hb1,hb2⟩:=blobs_cons raw (pickN n)
  have hpk:pickP raw n=(b,bs):=by unfold pickP;rw[hb];rfl
  rw[hpk]
  exact⟨⟨hb1,hb2,by simp only;omega,by simp only;omega,by omega,by simp only;omega⟩,hbl⟩
theorem aw16a:makeV [97,10,99,10] [[97,10,98,10],[97,10,99,10]]=⟨2,[⟨false,0,[97,10]⟩,⟨true,1,[98,10]⟩,⟨false,1,[99,10]⟩]⟩:=by decide +kernel
@[simp] def S_law16_awake:List D→Prop × D:=spec0 True (.bool true)
theorem ct_law16_awake {P:Program} {f g1 g2 g3:Nat} {G:Gam} (h:CodeOf P f 0 3 [0] (x_law16_awake g1 g2 g3)) (hG:GamOk P G) (h1:G.find g1=some S_weave_Make) (h2:G.find g2=some S_gen_Table) (h3:G.find g3=some S_weave_Check):Has P f S_law16_awake:=h.has0 hG fun _=>by
  have hmk:makeD [97,10,99,10] [[97,10,98,10],[97,10,99,10]]=.tup [Rep.to (⟨2,[⟨false,0,[97,10]⟩,⟨true,1,[98,10]⟩,⟨false,1,[99,10]⟩]⟩:TableT),.int .i64 0]:=by
    rw[← aw16a]
    rfl
  have hok:tabOk ⟨2,[⟨false,0,[97,10]⟩,⟨true,1,[98,10]⟩,⟨false,1,[99,10]⟩]⟩:=by
    refine⟨by simp,?_,by decide⟩
    intro r hr
    simp at hr
    rcases hr with rfl | rfl | rfl <;> simp[rowOk]
  have e1:ofAll (Rep.of (α:=RowT)) [.agg [.bool false,.int .u32 0,.str [97,10]],.agg [.bool true,.int .u32 1,.str [98,10]],.agg [.bool false,.int .u32 1,.str [99,10]]]=some [⟨false,0,[97,10]⟩,⟨true,1,[98,10]⟩,⟨false,1,[99,10]⟩]:=rfl
  have e2:ofAll (Rep.of (α:=Str)) [.str [97,10,98,10],.str [97,10,99,10]]=some [[97,10,98,10],[97,10,99,10]]:=rfl
  simp[x_law16_awake,h1,h2,h3,hmk,hok,aw17a,e1,e2]
theorem small_len {r:Str} {ps:List Str} {B:Nat} (h:Small r ps B):(makeV r ps).rows.length≤9223372036854775807:=by
  have h1:=make_len h
  have h2:=Nat.mul_le_mul (show (B+1) * ps.length+1≤4097 by have:=h.b2;omega) (show B+2≤102 by have:=h.b1;omega)
  omega
theorem small_make {r:Str} {ps:List Str} {B:Nat} (h:Small r ps B):makeD r ps=.tup [Rep.to (makeV r ps),.int .i64 0]:=by
  have:=h.n1
  have:=h.n2
  unfold makeD
  rw[if_neg (by omega)]
theorem small_pre {r:Str} {ps:List Str} {B:Nat} (h:Small r ps B):r.length≤100∧∀p,p∈ps→p.length≤100:=⟨by have:=h.hr;have:=h.b1;omega,fun p hp=>by have:=h.hp p hp;have:=h.b1;omega⟩
theorem totF_len {α:Type} (f:Nat→List α):∀(d j:Nat),(∀k,j≤k→k<j+d→(f k).length=1)→(totF f j d).length=d
  | 0,_,_=>rfl
  | d+1,j,h=>by
    rw[totF,List.length_append,h j (by omega) (by omega),totF_len f d (j+1) fun k h1 h2=>h k (by omega) (by omega)]
    omega
def keepF (l:List ChangeT) (k:Nat):List Nat:=if insB l k=true then [] else [k]
theorem keep_len:∀(l:List ChangeT) (i j m n:Nat) (fst:Bool),okV l i j fst m n=true→(totF (keepF l) j (n-j)).length=(matV l i j m).length∧((matV l i j m).length:Int)+(l.map ChangeT.oldLen).sum=m-i∧((matV l i j m).length:Int)+(l.map ChangeT.newLen).sum=n-j
  | [],i,j,m,n,fst,h=>by
    simp only[okV,Bool.and_eq_true,decide_eq_true_eq] at h
    have h1:(totF (keepF []) j (n-j)).length=n-j:=totF_len _ _ _ fun k _ _=>by simp[keepF,insB]
    rw[h1,matV,runN_len]
    simp
    omega
  | c::l,i,j,m,n,fst,h=>by
    simp only[okV,Bool.and_eq_true] at h
    have h2:=stepV_true h.1
    have hle:=okV_le _ _ _ _ _ _ h.2
    obtain⟨o,ho⟩:=Int.eq_ofNat_of_zero_le h2.1.1
    obtain⟨ol,hol⟩:=Int.eq_ofNat_of_zero_le h2.2.1.1
    obtain⟨nw,hnw⟩:=Int.eq_ofNat_of_zero_le h2.2.2.1.1
    obtain⟨nl,hnl⟩:=Int.eq_ofNat_of_zero_le h2.2.2.2.1.1
    have hok:=h.2
    rw[ho,hol,hnw,hnl] at hok hle
    have hji:j≤nw:=by omega
    obtain⟨i1,i2,i3⟩:=keep_len l (o+ol) (nw+nl) m n false (by push_cast;exact hok)
    have hins:∀k,insB (c::l) k=(decide (c.new≤(k:Int)∧(k:Int)<c.new+c.newLen) || insB l k):=fun k=>by simp[insB]
    have hlow:∀k:Nat,(k:Int)<(nw+nl:Nat)→insB l k=false:=fun k hk=>insB_low hok (by push_cast at hk;exact hk)
    have a1:(totF (keepF (c::l)) j (nw-j)).length=nw-j:=totF_len _ _ _ fun k k1 k2=>by
      unfold keepF
      rw[hins k,hlow k (by omega)]
      have:decide (c.new≤(k:Int)∧(k:Int)<c.new+c.newLen)=false:=by rw[hnw,decide_eq_false_iff_not];omega
      rw[this]
      rfl
    have a2:totF (keepF (c::l)) nw nl=[]:=totF_nil _ _ fun k k1 k2=>by
      unfold keepF
      rw[hins k]
      have:decide (c.new≤(k:Int)∧(k:Int)<c.new+c.newLen)=true:=by rw[hnw,hnl,decide_eq_true_eq];omega
      rw[this]
      rfl
    have a3:totF (keepF (c::l)) (nw+nl) (n-(nw+nl))=totF (keepF l) (nw+nl) (n-(nw+nl)):=totF_congr _ _ fun k k1 k2=>by
      unfold keepF
      rw[hins k]
      have:decide (c.new≤(k:Int)∧(k:Int)<c.new+c.newLen)=false:=by rw[hnw,hnl,decide_eq_false_iff_not];omega
      rw[this,Bool.false_or]
    have hmv:(matV (c::l) i j m).length=(o-i)+(matV l ((o+ol:Nat):Int) ((nw+nl:Nat):Int) m).length:=by
      rw[matV,List.length_append,runN_len,ho,hol,hnw,hnl]
      push_cast
      congr 1
      omega
    rw[show n-j=(nw-j)+(nl+(n-(nw+nl))) by omega,totF_add,totF_add,List.length_append,List.length_append,a1,show j+(nw-j)=nw by omega,a2,a3,i1,hmv]
    simp only[List.map_cons,List.sum_cons,List.length_nil]
    rw[hol,hnl]
    omega
def cntL (p:Nat) (rows:List RowT):Nat:=(rows.filter fun r=>r.lost && r.marks.toNat.testBit p).length
def cntK (p:Nat) (rows:List RowT):Nat:=(rows.filter fun r=>!r.lost && r.marks.toNat.testBit p).length
def cntN (p:Nat) (rows:List RowT):Nat:=(rows.filter fun r=>!r.lost && !r.marks.toNat.testBit p).length
theorem cnt_cols {p:Nat} (hp:p<32):∀rows:List RowT,(∀r,r∈rows→rowOk r)→(colV rows p).length=cntL p rows+cntN p rows∧(colV rows (-1)).length=cntK p rows+cntN p rows
  | [],_=>⟨rfl,rfl⟩
  | r::rs,h=>by
    obtain⟨i1,i2⟩:=cnt_cols hp rs fun x hx=>h x (by simp[hx])
    have hr:=h r (by simp)
    obtain⟨m,hm⟩:=Int.eq_ofNat_of_zero_le hr.1
    have hlt:m<4294967296:=by have:=hr.2;omega
    have hv:visB r p=(r.marks.toNat.testBit p == r.lost):=by
      unfold visB
      rw[if_neg (by omega),if_neg (by omega),hm,getU_nat hlt hp,Int.toNat_natCast]
      cases m.testBit p <;> rfl
    unfold colV cntL cntN cntK at *
    simp only[List.filter_cons,vis_res] at *
    rw[hv]
    cases r.lost <;> cases r.marks.toNat.testBit p <;> simp at i1 i2 ⊢ <;> omega
theorem cntN_app (p:Nat) (a b:List RowT):cntN p (a++b)=cntN p a+cntN p b:=by simp[cntN]
theorem cntN_gap {N:List Str} {I:List (List Int)} {n p:Nat} (hp:p<n) (k:Nat):cntN p (gapRows N I n k)=(if k<(I.getD 0 []).length then keepF (scrV I p) k else []).length:=by
  unfold gapRows
  rw[cntN_app]
  have e1:cntN p ((mergedV (gapV I n k)).map (lostRow N))=0:=by
    unfold cntN
    rw[List.filter_eq_nil_iff.2]
    · rfl
    · intro r hr
      obtain⟨m,_,rfl⟩:=List.mem_map.1 hr
      simp[lostRow]
  rw[e1,Nat.zero_add]
  by_cases hk:k<(I.getD 0 []).length
  · rw[if_pos hk,if_pos hk]
    unfold cntN keepF
    have hb:(keptRow N I n k).marks.toNat.testBit p=insB (scrV I p) k:=by
      show (((markN I k n:Nat):Int)).toNat.testBit p=_
      rw[Int.toNat_natCast,markN_bit]
      simp[hp]
    rw[List.filter_cons,hb]
    have hl:(keptRow N I n k).lost=false:=rfl
    rw[hl]
    cases insB (scrV I p) k <;> rfl
  · rw[if_neg hk,if_neg hk]
    rfl
theorem cntN_rows {N:List Str} {I:List (List Int)} {n p:Nat} (hp:p<n):∀(l:List Nat),cntN p (l.flatMap (gapRows N I n))=(l.flatMap fun k=>if k<(I.getD 0 []).length then keepF (scrV I p) k else []).length
  | []=>rfl
  | k::l=>by rw[List.flatMap_cons,List.flatMap_cons,cntN_app,List.length_append,cntN_gap hp,cntN_rows hp l]
theorem make_count {r:Str} {ps:List Str} {B:Nat} (h:Small r ps B) {p:Nat} (hp:p<ps.length) :
    (cntL p (makeV r ps).rows:Int)=((scrV (idsV (filesV r ps)) p).map ChangeT.oldLen).sum∧(cntK p (makeV r ps).rows:Int)=((scrV (idsV (filesV r ps)) p).map ChangeT.newLen).sum:=by
  have hn2:=h.n2
  have hrows:∀x,x∈(makeV r ps).rows→rowOk x:=fun x hx=>by
    obtain⟨k,h1,h2,_⟩:=make_marks h hx
    have h3:=pow_le h.n2
    unfold rowOk
    rw[h1]
    omega
  obtain⟨c1,c2⟩:=cnt_cols (p:=p) (by omega) _ hrows
  rw[make_col h hp] at c1
  rw[make_res] at c2
  have hx:(linesV ps[p]).length=((idsV (filesV r ps)).getD (p+1) []).length:=by
    rw[idsV_getD (by rw[filesV_len];omega),List.length_map,filesV_succ r ps hp]
  have hy:(linesV r).length=((idsV (filesV r ps)).getD 0 []).length:=(ids0_len r ps).symm
  have hxl:=h.ids p hp
  have hyl:=h.ids0
  have hb1:=h.b1
  obtain⟨hck,_,_⟩:=script_ok (a:=(idsV (filesV r ps)).getD (p+1) []) (b:=(idsV (filesV r ps)).getD 0 []) (by omega) (by omega)
  simp only[checkV,Bool.and_eq_true] at hck
  obtain⟨k1,k2,k3⟩:=keep_len (scrV (idsV (filesV r ps)) p) 0 0 _ _ true hck.2
  have e0:((0:Nat):Int)=0:=rfl
  rw[e0] at k1 k2 k3
  have hn:cntN p (makeV r ps).rows=(matV (scrV (idsV (filesV r ps)) p) 0 0 ((idsV (filesV r ps)).getD (p+1) []).length).length:=by
    rw[show (makeV r ps).rows=rowsTo (namesV (filesV r ps)) (idsV (filesV r ps)) ps.length ((linesV r).length+1) from rfl]
    unfold rowsTo
    rw[cntN_rows hp,hy,totF_range,totF_add,totF_nil 1,List.append_nil,← k1,totF_congr (g:=keepF (scrV (idsV (filesV r ps)) p))]
    · rfl
    · intro k _ hk
      rw[if_pos (by omega)]
    · intro k hk _
      rw[if_neg (by omega)]
  rw[hx] at c1
  rw[hy] at c2
  rw[← hn] at k2 k3
  omega
/-! ### equal parents -/
theorem ids_same {F:List (List Str)} {p q:Nat} (hp:p<F.length) (hq:q<F.length) (h:F[p]=F[q]):(idsV F).getD p []=(idsV F).getD q []:=by
  rw[idsV_getD hp,idsV_getD hq,h]
theorem scr_self {r:Str} {ps:List Str} {p:Nat} (hp:p<ps.length) (h:ps[p]=r):scrV (idsV (filesV r ps)) p=[]:=by
  unfold scrV
  rw[ids_same (F:=filesV r ps) (p:=p+1) (q:=0) (by rw[filesV_len];omega) (by rw[filesV_len];omega) (by rw[filesV_succ r ps hp,filesV_zero,h]),scriptV_self]
theorem make_same {r:Str} {ps:List Str} {B:Nat} (hs:Small r ps B) (h:∀p,p∈ps→p=r):(∀x,x∈(makeV r ps).rows→x.lost=false∧x.marks=0)∧(makeV r ps).rows.length=(linesV r).length:=by
  have hscr:∀p,p<ps.length→scrV (idsV (filesV r ps)) p=[]:=fun p hp=>scr_self hp (h _ (List.getElem_mem hp))
  have hrow:∀x,x∈(makeV r ps).rows→x.lost=false∧x.marks=0:=by
    intro x hx
    rcases make_row hx with ⟨k,m,hm,rfl⟩ | ⟨k,hk,rfl⟩
    · exfalso
      have hg:gapV (idsV (filesV r ps)) ps.length k=List.replicate ps.length []:=by
        unfold gapV
        apply List.ext_getElem
        · simp
        · intro i h1 h2
          simp at h1
          simp only[List.getElem_map,List.getElem_range,List.getElem_replicate]
          rw[hscr i h1]
          rfl
      obtain⟨_,h2⟩:=merged_ok (xs:=gapV (idsV (filesV r ps)) ps.length k) (by rw[gapV_len];exact hs.n2) (by have:=sumL_gap hs.ids k;have:=hs.b2;omega)
      have hl:=h2.len
      have:sumL (gapV (idsV (filesV r ps)) ps.length k)=0:=by rw[hg];simp[sumL]
      rw[this] at hl
      have:mergedV (gapV (idsV (filesV r ps)) ps.length k)=[]:=List.length_eq_zero_iff.1 (by omega)
      rw[this] at hm
      cases hm
    · refine⟨rfl,?_⟩
      have:markN (idsV (filesV r ps)) k ps.length=0:=by
        apply Nat.eq_of_testBit_eq
        intro p
        rw[markN_bit,Nat.zero_testBit]
        by_cases hp:p<ps.length
        · rw[hscr p hp];simp[insB]
        · simp[hp]
      simp[this]
  refine⟨hrow,?_⟩
  have:=make_res (r:=r) (ps:=ps)
  rw[← this]
  unfold colV
  rw[List.filter_eq_self.2]
  · simp
  · intro x hx
    rw[vis_res,(hrow x hx).1]
    rfl
theorem make_twice {r:Str} {ps:List Str} {B:Nat} (hs:Small r ps B) {p q:Nat} (hp:p<ps.length) (hq:q<ps.length) (h:ps[p]=ps[q]) {x:RowT} (hx:x∈(makeV r ps).rows) (hl:x.lost=false):x.marks.toNat.testBit p=x.marks.toNat.testBit q:=by
  rcases make_row hx with ⟨k,m,hm,rfl⟩ | ⟨k,hk,rfl⟩
  · cases hl
  · simp only[Int.toNat_natCast]
    rw[markN_bit,markN_bit]
    have:scrV (idsV (filesV r ps)) p=scrV (idsV (filesV r ps)) q:=by
      unfold scrV
      rw[ids_same (F:=filesV r ps) (p:=p+1) (q:=q+1) (by rw[filesV_len];omega) (by rw[filesV_len];omega) (by rw[filesV_succ r ps hp,filesV_succ r ps hq,h])]
    rw[this]
    simp[hp,hq]
def injOn (f:Int→Int) (a b:List Int):Prop:=∀x,x∈a→∀y,y∈b→f x=f y→x=y
theorem dist_map (f:Int→Int):∀(n:Nat) (a b:List Int),a.length+b.length≤n→injOn f a b→dist (a.map f) (b.map f)=dist a b
  | _,[],b,_,_=>by rw[List.map_nil,dist_nil,dist_nil,List.length_map]
  | _,x::a,[],_,_=>by rw[List.map_nil,dist_nil',dist_nil',List.length_map]
  | 0,x::a,y::b,h,_=>by simp at h
  | n+1,x::a,y::b,h,hi=>by
    simp only[List.length_cons] at h
    have i1:injOn f a b:=fun u hu v hv=>hi u (by simp[hu]) v (by simp[hv])
    have i2:injOn f a (y::b):=fun u hu v hv=>hi u (by simp[hu]) v hv
    have i3:injOn f (x::a) b:=fun u hu v hv=>hi u hu v (by simp[hv])
    have d1:=dist_map f n a b (by omega) i1
    have d2:=dist_map f n a (y::b) (by simp;omega) i2
    have d3:=dist_map f n (x::a) b (by simp;omega) i3
    simp only[List.map_cons] at d2 d3 ⊢
    rw[dist,dist]
    by_cases e:x=y
    · subst e
      rw[if_pos rfl,if_pos rfl,d1]
    · rw[if_neg e,if_neg (fun h=>e (hi x (by simp) y (by simp) h)),d2,d3]
theorem walk_map (f:Int→Int):∀(n:Nat) (a b:List Int) (i j:Int),a.length+b.length≤n→injOn f a b→walkV (a.map f) (b.map f) i j=walkV a b i j
  | _,[],b,i,j,_,_=>by rw[List.map_nil,walkV_nil,walkV_nil]
  | _,x::a,[],i,j,_,_=>by rw[List.map_nil,walkV_nil',walkV_nil']
  | 0,x::a,y::b,i,j,h,_=>by simp at h
  | n+1,x::a,y::b,i,j,h,hi=>by
    simp only[List.length_cons] at h
    have i1:injOn f a b:=fun u hu v hv=>hi u (by simp[hu]) v (by simp[hv])
    have i2:injOn f a (y::b):=fun u hu v hv=>hi u (by simp[hu]) v hv
    have i3:injOn f (x::a) b:=fun u hu v hv=>hi u hu v (by simp[hv])
    have d1:=walk_map f n a b (i+1) (j+1) (by omega) i1
    have d2:=walk_map f n a (y::b) (i+1) j (by simp;omega) i2
    have d3:=walk_map f n (x::a) b i (j+1) (by simp;omega) i3
    have e1:=dist_map f _ a (y::b) (Nat.le_refl _) i2
    have e2:=dist_map f _ (x::a) (y::b) (Nat.le_refl _) hi
    simp only[List.map_cons] at d2 d3 e1 e2 ⊢
    rw[walkV,walkV]
    by_cases e:x=y
    · subst e
      rw[if_pos rfl,if_pos rfl,d1]
    · rw[if_neg e,if_neg (fun h=>e (hi x (by simp) y (by simp) h)),d2,d3,e1,e2]
theorem script_inj {f:Int→Int} {a b:List Int} (h:injOn f a b):scriptV (a.map f) (b.map f)=scriptV a b:=by
  unfold scriptV
  rw[walk_map f _ a b 0 0 (Nat.le_refl _) h,List.length_map,List.length_map]
theorem script_names {u v N1 N2:List Str} (h1:∀y,y∈u∨y∈v→y∈N1) (h2:∀y,y∈u∨y∈v→y∈N2) :
    scriptV (u.map (placeV N1)) (v.map (placeV N1))=scriptV (u.map (placeV N2)) (v.map (placeV N2)):=by
  have key:∀w:List Str,(∀y,y∈w→y∈N1)→(w.map (placeV N1)).map (fun x=>placeV N2 (nmV N1 x))=w.map (placeV N2):=fun w hw=>by
    rw[List.map_map]
    exact List.map_congr_left fun y hy=>by simp only[Function.comp_apply];rw[nm_place (hw y hy)]
  rw[← key u fun y hy=>h1 y (.inl hy),← key v fun y hy=>h1 y (.inr hy),script_inj]
  intro x hx y hy e
  obtain⟨s,hs,rfl⟩:=List.mem_map.1 hx
  obtain⟨t,ht,rfl⟩:=List.mem_map.1 hy
  simp only at e
  rw[nm_place (h1 s (.inl hs)),nm_place (h1 t (.inr ht))] at e
  have:=congrArg (nmV N2) e
  rw[nm_place (h2 s (.inl hs)),nm_place (h2 t (.inr ht))] at this
  rw[this]
theorem mem_two {u v:List Str} (y:Str) (h:y∈u∨y∈v):y∈namesV [u,v]:=by
  rcases h with h | h
  · exact mem_names.2 ⟨u,by simp,h⟩
  · exact mem_names.2 ⟨v,by simp,h⟩
theorem script_two {F:List (List Str)} {p q:Nat} (hp:p<F.length) (hq:q<F.length) :
    scriptV ((idsV [F[p],F[q]]).getD 0 []) ((idsV [F[p],F[q]]).getD 1 [])=scriptV ((idsV F).getD p []) ((idsV F).getD q []):=by
  rw[idsV_getD hp,idsV_getD hq]
  show scriptV (F[p].map (placeV (namesV [F[p],F[q]]))) (F[q].map (placeV (namesV [F[p],F[q]])))=_
  refine script_names (mem_two) fun y hy=>?_
  rcases hy with h | h
  · exact mem_names.2 ⟨_,List.getElem_mem hp,h⟩
  · exact mem_names.2 ⟨_,List.getElem_mem hq,h⟩
theorem cntL_take {p:Nat} {rows:List RowT} {i:Nat} (h:i<rows.length):cntL p (rows.take (i+1))=cntL p (rows.take i)+(if (rows[i].lost && rows[i].marks.toNat.testBit p)=true then 1 else 0):=by
  unfold cntL
  rw[List.take_succ_eq_append_getElem h,List.filter_append,List.length_append,List.filter_cons]
  split <;> simp
theorem cntK_take {p:Nat} {rows:List RowT} {i:Nat} (h:i<rows.length):cntK p (rows.take (i+1))=cntK p (rows.take i)+(if (!rows[i].lost && rows[i].marks.toNat.testBit p)=true then 1 else 0):=by
  unfold cntK
  rw[List.take_succ_eq_append_getElem h,List.filter_append,List.length_append,List.filter_cons]
  split <;> simp
theorem sumI_take {s:List Int} {i:Nat} (h:i<s.length):(s.take (i+1)).sum=(s.take i).sum+s[i]:=by
  rw[List.take_succ_eq_append_getElem h,List.sum_append]
  simp
def oldT (s:List ChangeT) (k:Nat):Int:=((s.map ChangeT.oldLen).take k).sum
def newT (s:List ChangeT) (k:Nat):Int:=((s.map ChangeT.newLen).take k).sum
theorem oldT_succ {s:List ChangeT} {k:Nat} (h:k<s.length):oldT s (k+1)=oldT s k+s[k].oldLen:=by
  unfold oldT
  rw[sumI_take (by simpa using h),List.getElem_map]
theorem newT_succ {s:List ChangeT} {k:Nat} (h:k<s.length):newT s (k+1)=newT s k+s[k].newLen:=by
  unfold newT
  rw[sumI_take (by simpa using h),List.getElem_map]
@[simp] def S_law16_WeaveMarks:List D→Prop × D:=spec2 (α:=List Int) (β:=Int) (fun raw _=>raw.length≤9223372036854775807) (fun _ _=>.bool true)
theorem ct_law16_WeaveMarks {P:Program} {f g1 g2 g3 g4:Nat} {G:Gam} (h:CodeOf P f 2 20 [2] (x_law16_WeaveMarks g1 g2 g3 g4)) (hG:GamOk P G) (h1:G.find g1=some S_law16_pick) (h2:G.find g2=some S_weave_Make) (h3:G.find g3=some S_ref09_Blobs) (h4:G.find g4=some S_law16_awake):Has P f S_law16_WeaveMarks:=h.has2 hG fun raw n p1=>by
  obtain⟨hs,hpl⟩:=pickP_ok raw n
  have hm:=small_make hs
  have hpre:=small_pre hs
  generalize hpk:pickP raw n=pk at *
  obtain⟨r,ps⟩:=pk
  simp only at hs hm hpre hpl
  have hn:=pickN_in n
  have hlen:=make_len hs
  have hb3:=Nat.mul_le_mul (show (60+1) * ps.length+1≤245 by omega) (Nat.le_refl (60+2))
  have hrl:(makeV r ps).rows.length≤15190:=by omega
  have hmarks:=fun x hx=>make_marks hs (x:=x) hx
  have hcnt:=fun p (hp:p<ps.length)=>make_count hs hp
  have hck:∀s:Str,s.length≤100→checkT s=0:=fun s h=>check_of (by omega) (by have:s.count 10≤s.length:=List.count_le_length;omega)
  have hckr:=hck r hpre.1
  have hbl:∀p (hp:p<ps.length),blobsD ps[p] r=.tup [Rep.to (scrV (idsV (filesV r ps)) p),.int .i64 0]:=fun p hp=>by
    have hpp:=hck ps[p] (hpre.2 _ (List.getElem_mem hp))
    unfold blobsD
    rw[if_pos hpp,if_pos hckr]
    have h0:0<(filesV r ps).length:=by rw[filesV_len];omega
    have h1:p+1<(filesV r ps).length:=by rw[filesV_len];omega
    have:=script_two (F:=filesV r ps) h1 h0
    rw[filesV_succ r ps hp,filesV_zero] at this
    rw[this]
    rfl
  have hscr:∀p,p<ps.length→∀c,c∈scrV (idsV (filesV r ps)) p→0≤c.oldLen∧c.oldLen≤100∧0≤c.newLen∧c.newLen≤100:=fun p hp c hc=>by
    have hx:=hs.ids p hp
    have hy:=hs.ids0
    obtain⟨hck,_,_⟩:=script_ok (a:=(idsV (filesV r ps)).getD (p+1) []) (b:=(idsV (filesV r ps)).getD 0 []) (by omega) (by omega)
    simp only[checkV,Bool.and_eq_true] at hck
    obtain⟨_,hnw⟩:=okV_new _ _ _ _ _ _ hck.2
    have:=hnw c hc
    omega
  have hscl:∀p,p<ps.length→(scrV (idsV (filesV r ps)) p).length≤100:=fun p hp=>by
    have:=scriptV_len ((idsV (filesV r ps)).getD (p+1) []) ((idsV (filesV r ps)).getD 0 [])
    have:=hs.ids p hp
    unfold scrV
    omega
  generalize makeV r ps=t at *
  obtain⟨par,rows⟩:=t
  simp only at hrl hmarks hcnt
  generalize idsV (filesV r ps)=I at *
  simp[x_law16_WeaveMarks,h1,h2,p1,hpk,hm,hpre]
  refine⟨hpre.2,?_⟩
  refine vc_lp (σ:=Nat) (fun c=>c≤ps.length) (fun c=>ps.length-c)
    (fun c=>[.any,.any,.any,.d (.str r),.d (Rep.to ps),.ref 0 0 0 0,.any,.d (.int .i64 c),.any,.any,.any,.any,.any,.any,.any,.any,.any,.any,.any,.any])
    (fun _=>[.cells 0 2 [.d (Rep.to (⟨par,rows⟩:TableT))]]) 0 (by simp) (by simp) (by simp) ?_
  intro c hc
  by_cases hcl:c<ps.length
  · have w1:IntKind.i64.wrap ((c:Int)+1)=(c:Int)+1:=wrap_in (by omega) (by omega)
    have hpc:=hs.hp _ (List.getElem_mem hcl)
    have hrr:=hs.hr
    have hblc:=hbl c hcl
    have hsc:=hscr c hcl
    have hsl:=hscl c hcl
    obtain⟨cO,cN⟩:=hcnt c hcl
    generalize scrV I c=s at *
    simp[hcl,getD_map,h3,hblc,show ps[c].length≤4194304 by omega,show r.length≤4194304 by omega]
    refine vc_lp (σ:=Nat) (fun k=>k≤s.length∧0≤oldT s k∧oldT s k≤100 * k∧0≤newT s k∧newT s k≤100 * k) (fun k=>s.length-k)
      (fun k=>[.any,.any,.any,.d (.str r),.d (Rep.to ps),.ref 0 0 0 0,.any,.d (.int .i64 c),.d (Rep.to s),.d (.int .i64 (oldT s k)),.d (.int .i64 (newT s k)),.d (.int .i64 k),.any,.any,.any,.any,.any,.any,.any,.any])
      (fun _=>[.cells 0 2 [.d (Rep.to (⟨par,rows⟩:TableT))]]) 0 (by simp[oldT,newT]) (by simp) (by simp[oldT,newT]) ?_
    rintro k ⟨hk,k1,k2,k3,k4⟩
    by_cases hks:k<s.length
    · have w2:IntKind.i64.wrap ((k:Int)+1)=(k:Int)+1:=wrap_in (by omega) (by omega)
      obtain⟨b1,b2,b3,b4⟩:=hsc _ (List.getElem_mem hks)
      have eO:=oldT_succ hks
      have eN:=newT_succ hks
      have w3:IntKind.i64.wrap (oldT s k+s[k].oldLen)=oldT s k+s[k].oldLen:=wrap_in (by omega) (by omega)
      have w4:IntKind.i64.wrap (newT s k+s[k].newLen)=newT s k+s[k].newLen:=wrap_in (by omega) (by omega)
      simp[hks,getD_map,w2,w3,w4]
      exact Nxt.mk (k+1) (by omega) (by simp[eO,eN]) (by simp) ⟨by omega,by omega,by omega,by omega,by omega⟩
    · have h9:k=s.length:=by omega
      subst h9
      have tO:oldT s s.length=(s.map ChangeT.oldLen).sum:=by unfold oldT;rw[List.take_of_length_le (by simp)]
      have tN:newT s s.length=(s.map ChangeT.newLen).sum:=by unfold newT;rw[List.take_of_length_le (by simp)]
      rw[← tO] at cO
      rw[← tN] at cN
      simp
      rw[← cO,← cN]
      refine vc_lp (σ:=Nat) (fun i=>i≤rows.length∧cntL c (rows.take i)≤i∧cntK c (rows.take i)≤i) (fun i=>rows.length-i)
        (fun i=>[.any,.any,.any,.d (.str r),.d (Rep.to ps),.ref 0 0 0 0,.any,.d (.int .i64 c),.any,.d (.int .i64 ((cntL c rows:Int)-cntL c (rows.take i))),.d (.int .i64 ((cntK c rows:Int)-cntK c (rows.take i))),.any,.d (.int .i64 i),.any,.any,.any,.any,.any,.any,.any])
        (fun _=>[.cells 0 2 [.d (Rep.to (⟨par,rows⟩:TableT))]]) 0 (by simp[cntL,cntK]) (by simp) (by simp[cntL,cntK]) ?_
      have hLr:cntL c rows≤rows.length:=List.length_filter_le _ _
      have hKr:cntK c rows≤rows.length:=List.length_filter_le _ _
      rintro i ⟨hi,i1,i2⟩
      by_cases hir:i<rows.length
      · have w2:IntKind.i64.wrap ((i:Int)+1)=(i:Int)+1:=wrap_in (by omega) (by omega)
        obtain⟨m,e1,e2,_⟩:=hmarks _ (List.getElem_mem hir)
        have hlt:m<4294967296:=Nat.lt_of_lt_of_le e2 (pow_le hs.n2)
        have hg:=getU_nat hlt (show c<32 by omega)
        have e:getU m c=IntKind.u32.wrap ↑(((m:Int).fdiv (2 ^ min c IntKind.u32.bits) % 2 ^ IntKind.u32.bits).toNat &&& 1 % 2 ^ IntKind.u32.bits):=rfl
        have tL:=cntL_take (p:=c) hir
        have tK:=cntK_take (p:=c) hir
        rw[e1,Int.toNat_natCast] at tL tK
        cases hb:m.testBit c with
        | false =>
          rw[hb,if_neg (by simp)] at hg
          rw[hb,Bool.and_false,if_neg (by simp),Nat.add_zero] at tL tK
          simp[hir,getD_map,e1,u64_wrap (show c<18446744073709551616 by omega),← e,hg,w2]
          exact Nxt.mk (i+1) (by omega) (by simp[tL,tK]) (by simp) ⟨by omega,by omega,by omega⟩
        | true =>
          rw[hb,if_pos rfl] at hg
          rw[hb,Bool.and_true] at tL tK
          cases hl:rows[i].lost with
          | true =>
            rw[hl,if_pos rfl] at tL
            rw[hl,if_neg (by simp),Nat.add_zero] at tK
            have w3:IntKind.i64.wrap ((cntL c rows:Int)-cntL c (rows.take i)-1)=(cntL c rows:Int)-cntL c (rows.take i)-1:=wrap_in (by omega) (by omega)
            simp[hir,getD_map,e1,u64_wrap (show c<18446744073709551616 by omega),← e,hg,w2,hl,w3]
            exact Nxt.mk (i+1) (by omega) (by simp[tL,tK];omega) (by simp) ⟨by omega,by omega,by omega⟩
          | false =>
            rw[hl,if_neg (by simp),Nat.add_zero] at tL
            rw[hl,if_pos (by rfl)] at tK
            have w3:IntKind.i64.wrap ((cntK c rows:Int)-cntK c (rows.take i)-1)=(cntK c rows:Int)-cntK c (rows.take i)-1:=wrap_in (by omega) (by omega)
            simp[hir,getD_map,e1,u64_wrap (show c<18446744073709551616 by omega),← e,hg,w2,hl,w3]
            exact Nxt.mk (i+1) (by omega) (by simp[tL,tK];omega) (by simp) ⟨by omega,by omega,by omega⟩
      · have h9:i=rows.length:=by omega
        subst h9
        simp[w1]
        exact Nxt.mk (c+1) (by omega) (by simp) (by simp) (by omega)
  · have h9:c=ps.length:=by omega
    subst h9
    simp[h4]
theorem law16_WeaveMarks_pre (raw:List Int) (n:Int) (w0:Arg.wf raw) (w1:Arg.wf n):raw.length≤9223372036854775807:=by
  have:=len_wf w0
  omega
theorem getU_zero (m:Int) (h:0≤m):getU m 0=IntKind.u32.wrap ↑((m % 2 ^ IntKind.u32.bits).toNat &&& 1 % 2 ^ IntKind.u32.bits):=by
  unfold getU
  simp
@[simp] def S_law16_WeaveSame:List D→Prop × D:=spec2 (α:=List Int) (β:=Int) (fun raw _=>raw.length≤9223372036854775807) (fun _ _=>.bool true)
theorem ct_law16_WeaveSame {P:Program} {f g1 g2 g3 g4 g5:Nat} {G:Gam} (h:CodeOf P f 2 20 [2] (x_law16_WeaveSame g1 g2 g3 g4 g5)) (hG:GamOk P G) (h1:G.find g1=some S_law16_pick) (h2:G.find g2=some S_gen_Mod) (h3:G.find g3=some S_weave_Make) (h4:G.find g4=some S_ref02_Lines) (h5:G.find g5=some S_law16_awake):Has P f S_law16_WeaveSame:=h.has2 hG fun raw n p1=>by
  obtain⟨hs,hpl⟩:=pickP_ok raw n
  have hpre:=small_pre hs
  generalize hpk:pickP raw n=pk at *
  obtain⟨r,ps⟩:=pk
  simp only at hs hpre hpl
  have hn:=pickN_in n
  obtain⟨m1,m2⟩:=modV_lt n (n:=32) (by omega)
  obtain⟨K,hK⟩:∃K:Nat,1+modV n 32=K:=⟨(1+modV n 32).toNat,by omega⟩
  have wK:IntKind.i64.wrap (1+modV n 32)=K:=by rw[hK];exact wrap_in (by omega) (by omega)
  have hp0:0<ps.length:=by omega
  have s1:Small r (List.replicate K r) 60:=⟨hs.hr,fun p hp=>by rw[(List.mem_replicate.1 hp).2];exact hs.hr,by simp;omega,by simp;omega,by omega,by simp;omega⟩
  have s2:Small r (ps++[ps[0]]) 60:=⟨hs.hr,fun p hp=>by
    rcases List.mem_append.1 hp with hp | hp
    · exact hs.hp p hp
    · rw[List.mem_singleton.1 hp]
      exact hs.hp _ (List.getElem_mem _),by simp,by simp;omega,by omega,by simp;omega⟩
  have k1:=small_make s1
  have k2:=small_make s2
  have q1:=small_pre s1
  have q2:=small_pre s2
  have l1:=small_len s1
  have l2:=small_len s2
  obtain⟨e1,e2⟩:=make_same s1 fun p hp=>(List.mem_replicate.1 hp).2
  have e3:=fun x hx hl=>make_twice s2 (p:=ps.length) (q:=0) (by simp) (by simp) (by simp[List.getElem_append,hp0]) (x:=x) hx hl
  have e4:=fun x hx=>make_marks s2 (x:=x) hx
  have hrr:=hs.hr
  generalize ht:makeV r (List.replicate K r)=t at *
  generalize hu:makeV r (ps++[ps[0]])=u at *
  obtain⟨pt,rt⟩:=t
  obtain⟨pu,ru⟩:=u
  simp only at e1 e2 e3 e4 l1 l2
  simp[x_law16_WeaveSame,h1,h2,p1,hpk,wK]
  refine vc_lp (σ:=Nat) (fun i=>i≤K) (fun i=>K-i)
    (fun i=>[.any,.any,.any,.d (.str r),.d (Rep.to ps),.d (.int .i64 K),.gr 0 1 ((List.replicate i r).map Rep.to),.d (.int .i64 i),.any,.any,.any,.any,.any,.any,.any,.any,.any,.any,.any,.any]) (fun i=>[.tip i]) 0 (by simp) (by simp) (by simp) ?_
  intro i hi
  by_cases hiK:i<K
  · have w1:IntKind.i64.wrap ((i:Int)+1)=(i:Int)+1:=wrap_in (by omega) (by omega)
    have hrs:List.replicate (i+1) (D.str r)=List.replicate i (D.str r)++[D.str r]:=List.replicate_succ'
    simp[hiK,w1]
    exact⟨by unfold room;omega,Nxt.mk (i+1) (by omega) (by simp[hrs]) (by simp) (by omega)⟩
  · have h9:i=K:=by omega
    subst h9
    have er:ofAll (Rep.of (α:=Str)) (List.replicate i (.str r))=some (List.replicate i r):=by
      have:=ofAll_to (List.replicate i r)
      rw[List.map_replicate] at this
      exact this
    have ea:ofAll (Rep.of (α:=Str)) (List.map Rep.to ps++[.str ps[0]])=some (ps++[ps[0]]):=by
      have:=ofAll_to (ps++[ps[0]])
      rw[List.map_append] at this
      exact this
    simp[h3,h4,er,ea,q1,q2,k1,k2,hp0,getD_map,e2,show r.length≤4194304 by omega]
    have hlr:(linesV r).length≤61:=linesV_leB hrr
    refine⟨by unfold room;omega,by unfold room;omega,fun p hp=>q2.2 p (by simpa using hp),?_⟩
    refine vc_lp (σ:=Nat) (fun c=>c≤rt.length) (fun c=>rt.length-c)
      (fun c=>[.any,.any,.any,.any,.d (Rep.to ps),.any,.any,.any,.ref 1 0 0 0,.any,.ref 5 0 0 0,.any,.d (.int .i64 c),.any,.any,.any,.any,.any,.any,.any])
      (fun _=>[.tip i,.cells 0 2 [.d (Rep.to (⟨pt,rt⟩:TableT))],.tip (ps.length+1),.res,.res,.cells 0 2 [.d (Rep.to (⟨pu,ru⟩:TableT))]]) 0 (by simp) (by simp) (by simp) ?_
    intro c hc
    by_cases hcl:c<rt.length
    · have w1:IntKind.i64.wrap ((c:Int)+1)=(c:Int)+1:=wrap_in (by omega) (by omega)
      obtain⟨f1,f2⟩:=e1 _ (List.getElem_mem hcl)
      simp[hcl,getD_map,f1,f2,w1]
      exact Nxt.mk (c+1) (by omega) (by simp) (by simp) (by omega)
    · have h9:c=rt.length:=by omega
      subst h9
      simp
      refine vc_lp (σ:=Nat) (fun c=>c≤ru.length) (fun c=>ru.length-c)
        (fun c=>[.any,.any,.any,.any,.d (Rep.to ps),.any,.any,.any,.any,.any,.ref 5 0 0 0,.any,.any,.d (.int .i64 c),.any,.any,.any,.any,.any,.any])
        (fun _=>[.tip i,.cells 0 2 [.d (Rep.to (⟨pt,rt⟩:TableT))],.tip (ps.length+1),.res,.res,.cells 0 2 [.d (Rep.to (⟨pu,ru⟩:TableT))]]) 0 (by simp) (by simp) (by simp) ?_
      intro c hc
      by_cases hcl:c<ru.length
      · have w1:IntKind.i64.wrap ((c:Int)+1)=(c:Int)+1:=wrap_in (by omega) (by omega)
        cases hl:ru[c].lost with
        | true =>
          simp[hcl,getD_map,hl,w1]
          exact Nxt.mk (c+1) (by omega) (by simp) (by simp) (by omega)
        | false =>
          have htw:=e3 _ (List.getElem_mem hcl) hl
          obtain⟨m,g1',g2',_⟩:=e4 _ (List.getElem_mem hcl)
          rw[g1',Int.toNat_natCast] at htw
          have hlt:m<4294967296:=Nat.lt_of_lt_of_le g2' (pow_le s2.n2)
          have hg:=getU_nat hlt (show ps.length<32 by omega)
          have hg0:=getU_nat hlt (show 0<32 by omega)
          have e:getU m ps.length=IntKind.u32.wrap ↑(((m:Int).fdiv (2 ^ min ps.length IntKind.u32.bits) % 2 ^ IntKind.u32.bits).toNat &&& 1 % 2 ^ IntKind.u32.bits):=rfl
          have e0:getU m ((0:Nat):Int)=IntKind.u32.wrap ↑(m % 2 ^ IntKind.u32.bits &&& 1 % 2 ^ IntKind.u32.bits):=by
            have:=getU_zero m (by omega)
            rw[show ((0:Nat):Int)=0 from rfl,this]
            have h2:((m:Int) % 2 ^ IntKind.u32.bits).toNat=m % 2 ^ IntKind.u32.bits:=by
              have a1:(2:Int) ^ IntKind.u32.bits=4294967296:=rfl
              have a2:(2:Nat) ^ IntKind.u32.bits=4294967296:=rfl
              rw[a1,a2]
              omega
            rw[h2]
          rw[htw,← hg0,e0] at hg
          simp[hcl,getD_map,hl,g1',u64_wrap (show ps.length<18446744073709551616 by omega),← e,hg,w1]
          exact Nxt.mk (c+1) (by omega) (by simp) (by simp) (by omega)
      · have h9:c=ru.length:=by omega
        subst h9
        simp[h5]
theorem law16_WeaveSame_pre (raw:List Int) (n:Int) (w0:Arg.wf raw) (w1:Arg.wf n):raw.length≤9223372036854775807:=by
  have:=len_wf w0
  omega
end Go.AE
