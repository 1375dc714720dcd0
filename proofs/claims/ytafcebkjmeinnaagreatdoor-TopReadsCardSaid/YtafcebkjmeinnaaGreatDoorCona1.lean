/-
  Contracts: a strings.Builder that is handed on.
-/
import Derived.Test.YtafcebkjmeinnaaGreatDoorAe3
import Derived.Test.YtafcebkjmeinnaaGreatDoorCode1
import Derived.Lib.Bytealg
import Derived.Lib.IndexLaws
import Derived.Lib.ItoaLen
import Derived.Lib.ItoaNum
import Derived.Lib.Join
import Derived.Lib.Split
import Derived.Lib.SplitLaws
import Derived.Lib.Strings

set_option linter.unusedSimpArgs false
set_option linter.unusedVariables false
set_option linter.unnecessarySimpa false
set_option maxRecDepth 20000
set_option maxHeartbeats 4000000
namespace Go.AE
def A.gbs:A→List UInt8
  | .bgr _ _ bs=>bs
  | _=>[]
@[simp] theorem gbs_bgr (l:Nat) (t:TypeId) (bs:List UInt8):A.gbs (.bgr l t bs)=bs:=rfl
@[simp] def buS (bs:Str):Store:=[.cells 0 2 [.agg [.tref 0 0 106,.bgr 1 5 bs]],.tip bs.length]
@[simp] def F_copyCheck:RF Str where
  new:=0
  view _ st:=((st.getD 0 .dead).at 0 1).gbs
  args _:=[.ref 0 0 0 0]
  st bs:=buS bs
  pre _:=True
  res _:=.tup []
  st' bs:=buS bs
abbrev R___strings_Builder__copyCheck:RSpec:=F_copyCheck.spec
structure BwX where
  bs:Str
  s:Str
@[simp] def F_WriteString:RF BwX where
  new:=0
  view a st:=⟨((st.getD 0 .dead).at 0 1).gbs,(a.getD 1 .any).gs⟩
  args x:=[.ref 0 0 0 0,.d (.str x.s)]
  st x:=buS x.bs
  pre x:=x.bs.length+x.s.length≤140737488355328
  res x:=.tup [.d (.int .i64 x.s.length),.d .nilif]
  st' x:=buS (x.bs++x.s)
abbrev R___strings_Builder__WriteString:RSpec:=F_WriteString.spec
theorem ct___strings_Builder__WriteString {P:Program} {f g1:Nat} {G:Gam} (hc:CodeOf P f 2 4 [2,3] (x___strings_Builder__WriteString g1)) (hG:GamOk P G) (h1:G.findR g1=some R___strings_Builder__copyCheck):RSpec.Ok P f R___strings_Builder__WriteString:=by
  refine RF.ok hc.call fun x hx=>hc.rcalls hG rfl ?_
  obtain⟨bs,s⟩:=x
  have hx:bs.length+s.length≤140737488355328:=hx
  simp[x___strings_Builder__WriteString,startA,eRCall,h1]
  exact⟨by unfold room;omega,FinR.done (by simp) (by simp) rfl (by simp[resOf,resE]) (by simp) (by simp)⟩
structure BcX where
  bs:Str
  c:Int
@[simp] def F_WriteByte:RF BcX where
  new:=0
  view a st:=⟨((st.getD 0 .dead).at 0 1).gbs,(a.getD 1 .any).gi⟩
  args x:=[.ref 0 0 0 0,.d (.int .u8 x.c)]
  st x:=buS x.bs
  pre x:=x.bs.length+1≤140737488355328∧0≤x.c∧x.c<256
  res x:=.d .nilif
  st' x:=buS (x.bs++[UInt8.ofNat x.c.toNat])
abbrev R___strings_Builder__WriteByte:RSpec:=F_WriteByte.spec
theorem ct___strings_Builder__WriteByte {P:Program} {f g1:Nat} {G:Gam} (hc:CodeOf P f 2 3 [2] (x___strings_Builder__WriteByte g1)) (hG:GamOk P G) (h1:G.findR g1=some R___strings_Builder__copyCheck):RSpec.Ok P f R___strings_Builder__WriteByte:=by
  refine RF.ok hc.call fun x hx=>hc.rcalls hG rfl ?_
  obtain⟨bs,c⟩:=x
  obtain⟨p1,p2,p3⟩:=hx
  simp only at p1 p2 p3
  simp[x___strings_Builder__WriteByte,startA,eRCall,h1]
  exact⟨by unfold room;omega,FinR.done (by simp) (by simp) rfl (by simp[resOf,resE]) (by simp) (by simp)⟩
@[simp] def F_String:RF Str where
  new:=0
  view _ st:=((st.getD 0 .dead).at 0 1).gbs
  args _:=[.ref 0 0 0 0]
  st bs:=buS bs
  pre bs:=bs≠[]∧bs.length≤140737488355328
  res bs:=.d (.str bs)
  st' _:=[.dead,.dead]
abbrev R___strings_Builder__String:RSpec:=F_String.spec
/-! ### numbers -/
def fmtV (n:Int):Str:=if n<0∨2147483647<n then [] else Lib.itoa n
def frangeV (s c:Int):Str :=
  if s<0∨c<0∨2147483647<s∨2147483647-s<c then [] else
    if c=0 then fmtV s++[44,48] else if c=1 then fmtV (s+1) else fmtV (s+1)++[44]++fmtV c
def digB (s:Str) (i:Nat):Bool:=match s[i]? with
  | some c=>decide (48≤c.toNat) && decide (c.toNat≤57)
  | none=>false
def numL (s:Str):Nat→Int→Nat→Int × Nat
  | 0,n,i=>(n,i)
  | f+1,n,i=>if digB s i=true then numL s f (min (10 * n+((s.getD i 0).toNat-48:Int)) 2147483648) (i+1) else (n,i)
theorem digB_lt {s:Str} {i:Nat} (h:digB s i=true):i<s.length:=by
  unfold digB at h
  split at h
  · rename_i c hc
    exact (List.getElem?_eq_some_iff.1 hc).1
  · cases h
theorem numL_step {s:Str}:∀{f:Nat} {n:Int} {i:Nat},s.length≤i+f→digB s i=true→numL s f n i=numL s (f-1) (min (10 * n+((s.getD i 0).toNat-48:Int)) 2147483648) (i+1)
  | 0,n,i,h,hd=>by have:=digB_lt hd;omega
  | f+1,n,i,h,hd=>by rw[numL,if_pos hd];rfl
theorem numL_end {s:Str} {f:Nat} {n:Int} {i:Nat} (hd:digB s i=false):numL s f n i=(n,i):=by
  cases f with
  | zero=>rfl
  | succ f=>rw[numL,if_neg (by rw[hd];simp)]
def numV (s:Str) (a:Int):Option (Int × Nat) :=
  if a<0 then none else if digB s a.toNat=false then none else
    (if 2147483647<(numL s (s.length-a.toNat) 0 a.toNat).1∨(s.getD a.toNat 0=48∧a.toNat+1<(numL s (s.length-a.toNat) 0 a.toNat).2) then none else some (numL s (s.length-a.toNat) 0 a.toNat))
theorem numL_rng {s:Str}:∀{f:Nat} {n:Int} {i:Nat},0≤n→n≤2147483648→i≤s.length→0≤(numL s f n i).1∧(numL s f n i).1≤2147483648∧i≤(numL s f n i).2∧(numL s f n i).2≤s.length
  | 0,n,i,h0,h1,h2=>⟨h0,h1,Nat.le_refl _,h2⟩
  | f+1,n,i,h0,h1,h2=>by
    unfold numL
    split
    · rename_i hd
      have hi:=digB_lt hd
      have h48:48≤(s.getD i 0).toNat:=by
        unfold digB at hd
        rw[List.getElem?_eq_getElem hi] at hd
        simp only[Bool.and_eq_true,decide_eq_true_eq] at hd
        rw[List.getD_eq_getElem?_getD,List.getElem?_eq_getElem hi]
        exact hd.1
      have:=numL_rng (s:=s) (f:=f) (n:=min (10 * n+((s.getD i 0).toNat-48:Int)) 2147483648) (i:=i+1) (by omega) (by omega) (by omega)
      exact⟨this.1,this.2.1,by omega,this.2.2.2⟩
    · exact⟨h0,h1,Nat.le_refl _,h2⟩
theorem numV_rng {s:Str} {a:Int} {x:Int × Nat} (h:numV s a=some x):0≤a∧0≤x.1∧x.1≤2147483647∧a.toNat≤x.2∧x.2≤s.length:=by
  unfold numV at h
  split at h
  · cases h
  · split at h
    · cases h
    · rename_i hd
      split at h
      · cases h
      · rename_i hn
        have hi:=digB_lt (by simpa using hd)
        have:=numL_rng (s:=s) (f:=s.length-a.toNat) (n:=0) (i:=a.toNat) (by omega) (by omega) (by omega)
        obtain rfl:=Option.some.inj h
        exact⟨by omega,this.1,by omega,this.2.2.1,this.2.2.2⟩
/-! ### words -/
def plainB (c:UInt8):Bool:=decide (33≤c.toNat) && decide (c.toNat≤126) && decide (c≠34) && decide (c≠92)
def escV (c:UInt8):Str :=
  if c=34∨c=92 then [92,c] else if c=10 then [92,110] else if c=9 then [92,116] else
    if c.toNat<32∨126<c.toNat then [92,UInt8.ofNat (48+c.toNat / 64),UInt8.ofNat (48+c.toNat / 8 % 8),UInt8.ofNat (48+c.toNat % 8)] else [c]
def bareB (s:Str):Bool:=decide (s≠[]) && s.all plainB
def quoteV (s:Str):Str:=if bareB s=true then s else [34]++s.flatMap escV++[34]
@[simp] def S_strconv_Itoa:List D→Prop × D:=spec1 (α:=Int) (fun n=>0≤n∧n≤9223372036854775807) (fun n=>.str (Lib.itoa n))
@[simp] def S_scan_digit:List D→Prop × D:=spec2 (α:=Str) (β:=Int) (fun s i=>s.length≤1048576∧0≤i) (fun s i=>.bool (digB s i.toNat))
theorem ct_scan_digit {P:Program} {f:Nat} {G:Gam} (h:CodeOf P f 2 3 [2] x_scan_digit) (hG:GamOk P G):Has P f S_scan_digit:=h.has2 hG fun s i hp=>by
  obtain⟨p1,p2⟩:=hp
  obtain⟨k,rfl⟩:=Int.eq_ofNat_of_zero_le p2
  by_cases hk:k<s.length
  · have e:digB s k=(decide (48≤s[k].toNat) && decide (s[k].toNat≤57)):=by unfold digB;rw[List.getElem?_eq_getElem hk]
    by_cases c1:48≤s[k].toNat
    · by_cases c2:s[k].toNat≤57
      · simp[x_scan_digit,hk,e,c1,c2,show (48:Int)≤(s[k].toNat:Int) by omega,show (s[k].toNat:Int)≤57 by omega]
      · simp[x_scan_digit,hk,e,c1,c2,show (48:Int)≤(s[k].toNat:Int) by omega,show ¬(s[k].toNat:Int)≤57 by omega]
    · simp[x_scan_digit,hk,e,c1,show ¬(48:Int)≤(s[k].toNat:Int) by omega]
  · have e:digB s k=false:=by unfold digB;rw[List.getElem?_eq_none (by omega)]
    simp[x_scan_digit,hk,e]
theorem fmt_len (n:Int):(fmtV n).length≤21:=by
  unfold fmtV
  split
  · simp
  · exact Lib.itoa_length_le _ (by omega) (by omega)
@[simp] def S_scan_Format:List D→Prop × D:=spec1 (α:=Int) (fun _=>True) (fun n=>.str (fmtV n))
theorem ct_scan_Format {P:Program} {f g1:Nat} {G:Gam} (h:CodeOf P f 1 3 [1] (x_scan_Format g1)) (hG:GamOk P G) (h1:G.find g1=some S_strconv_Itoa):Has P f S_scan_Format:=h.has1 hG fun n _=>by
  by_cases c1:n<0
  · have e:fmtV n=[]:=by unfold fmtV;rw[if_pos (by omega)]
    simp[x_scan_Format,c1,e]
  · by_cases c2:2147483647<n
    · have e:fmtV n=[]:=by unfold fmtV;rw[if_pos (by omega)]
      simp[x_scan_Format,c1,c2,e]
    · have e:fmtV n=Lib.itoa n:=by unfold fmtV;rw[if_neg (by omega)]
      simp[x_scan_Format,h1,c1,c2,e,show 0≤n by omega,show n≤9223372036854775807 by omega]
@[simp] def S_scan_FormatRange:List D→Prop × D:=spec2 (α:=Int) (β:=Int) (fun _ _=>True) (fun s c=>.str (frangeV s c))
theorem ct_scan_FormatRange {P:Program} {f g1:Nat} {G:Gam} (h:CodeOf P f 2 7 [2] (x_scan_FormatRange g1)) (hG:GamOk P G) (h1:G.find g1=some S_scan_Format):Has P f S_scan_FormatRange:=h.has2 hG fun s c _=>by
  have l1:=fmt_len s
  have l2:=fmt_len (s+1)
  have l3:=fmt_len c
  by_cases c1:s<0
  · have e:frangeV s c=[]:=by unfold frangeV;rw[if_pos (by omega)]
    simp[x_scan_FormatRange,c1,e]
  · by_cases c2:c<0
    · have e:frangeV s c=[]:=by unfold frangeV;rw[if_pos (by omega)]
      simp[x_scan_FormatRange,c1,c2,e]
    · by_cases c3:2147483647<s
      · have e:frangeV s c=[]:=by unfold frangeV;rw[if_pos (by omega)]
        simp[x_scan_FormatRange,c1,c2,c3,e]
      · have w1:IntKind.i64.wrap (2147483647-s)=2147483647-s:=wrap_in (by omega) (by omega)
        have w2:IntKind.i64.wrap (s+1)=s+1:=wrap_in (by omega) (by omega)
        by_cases c4:2147483647-s<c
        · have e:frangeV s c=[]:=by unfold frangeV;rw[if_pos (by omega)]
          simp[x_scan_FormatRange,c1,c2,c3,w1,c4,e]
        · have e:frangeV s c=if c=0 then fmtV s++[44,48] else if c=1 then fmtV (s+1) else fmtV (s+1)++[44]++fmtV c:=by unfold frangeV;rw[if_neg (by omega)]
          by_cases c5:c=0
          · rw[if_pos c5] at e
            subst c5
            simp[x_scan_FormatRange,c1,c3,w1,c4,h1,e]
            omega
          · rw[if_neg c5] at e
            by_cases c6:c=1
            · rw[if_pos c6] at e
              subst c6
              simp[x_scan_FormatRange,c1,c3,w1,w2,c4,h1,e]
            · rw[if_neg c6] at e
              simp[x_scan_FormatRange,c1,c2,c3,w1,w2,c4,c5,c6,h1,e]
              omega
def optN (o:Option (Int × Nat)):D:=match o with
  | some x=>.tup [.int .i64 x.1,.int .i64 x.2,.bool true]
  | none=>.tup [.int .i64 0,.int .i64 0,.bool false]
structure NmX where
  n:Int
  i:Nat
@[simp] def S_scan_Number:List D→Prop × D:=spec2 (α:=Str) (β:=Int) (fun s _=>s.length≤1048576) (fun s a=>optN (numV s a))
theorem ct_scan_Number {P:Program} {f g1:Nat} {G:Gam} (h:CodeOf P f 2 10 [2,3,4] (x_scan_Number g1)) (hG:GamOk P G) (h1:G.find g1=some S_scan_digit):Has P f S_scan_Number:=h.has2 hG fun s a hp=>by
  by_cases c1:a<0
  · have e:numV s a=none:=by unfold numV;rw[if_pos c1]
    rw[e]
    simp[x_scan_Number,c1,optN]
  · obtain⟨k,rfl⟩:=Int.eq_ofNat_of_zero_le (show 0≤a by omega)
    cases c2:digB s k with
    | false =>
      have e:numV s (k:Int)=none:=by unfold numV;rw[if_neg c1,Int.toNat_natCast,if_pos c2]
      rw[e]
      simp[x_scan_Number,h1,hp,c1,c2,optN]
    | true =>
      have hk:=digB_lt c2
      have e:numV s (k:Int)=if 2147483647<(numL s (s.length-k) 0 k).1∨(s.getD k 0=48∧k+1<(numL s (s.length-k) 0 k).2) then none else some (numL s (s.length-k) 0 k):=by
        unfold numV
        rw[if_neg c1,Int.toNat_natCast,if_neg (by rw[c2];simp)]
      have hsk:s.getD k 0=s[k]:=by simp[List.getD,hk]
      rw[hsk] at e
      simp[x_scan_Number,h1,hp,c1,c2]
      refine vc_lp (σ:=NmX) (fun x=>k≤x.i∧x.i≤s.length∧0≤x.n∧x.n≤2147483648∧numL s (s.length-x.i) x.n x.i=numL s (s.length-k) 0 k) (fun x=>s.length-x.i)
        (fun x=>[.d (.str s),.d (.int .i64 k),.any,.any,.any,.d (.int .i64 x.n),.d (.int .i64 x.i),.any,.any,.any]) (fun _=>[]) ⟨0,k⟩ (by simp) (by simp) ⟨by simp,by simp;omega,by simp,by simp,rfl⟩ ?_
      rintro⟨n,i⟩ ⟨q1,q2,q3,q4,q5⟩
      simp only at q1 q2 q3 q4 q5
      cases c3:digB s i with
      | true =>
        have hi:=digB_lt c3
        have hsi:s.getD i 0=s[i]:=by simp[List.getD,hi]
        have h48:48≤s[i].toNat∧s[i].toNat≤57:=by
          unfold digB at c3
          rw[List.getElem?_eq_getElem hi] at c3
          simpa using c3
        have hst:=numL_step (f:=s.length-i) (n:=n) (by omega) c3
        rw[hsi] at hst
        have w1:IntKind.i64.wrap ((i:Int)+1)=(i:Int)+1:=wrap_in (by omega) (by omega)
        have w2:IntKind.i64.wrap (10 * n)=10 * n:=wrap_in (by omega) (by omega)
        have w3:IntKind.u8.wrap ((s[i].toNat:Int)-48)=(s[i].toNat:Int)-48:=IntWalk.u8_in _ ⟨by omega,by omega⟩
        have w4:IntKind.i64.wrap ((s[i].toNat:Int)-48)=(s[i].toNat:Int)-48:=wrap_in (by omega) (by omega)
        have w5:IntKind.i64.wrap (10 * n+((s[i].toNat:Int)-48))=10 * n+((s[i].toNat:Int)-48):=wrap_in (by omega) (by omega)
        simp[h1,hp,c3,hi,w1,w2,w3,w4,w5]
        exact Nxt.mk (⟨min (10 * n+((s[i].toNat:Int)-48)) 2147483648,i+1⟩:NmX) (by simp only;omega) (by simp) (by simp) ⟨by simp only;omega,by simp only;omega,by simp only;omega,by simp only;omega,by rw[← q5,hst];rfl⟩
      | false =>
        rw[numL_end c3] at q5
        rw[← q5] at e
        simp only at e
        have w1:IntKind.i64.wrap ((k:Int)+1)=(k:Int)+1:=wrap_in (by omega) (by omega)
        by_cases c4:2147483647<n
        · rw[if_pos (.inl c4)] at e
          rw[e]
          simp[h1,hp,c3,c4,optN]
        · by_cases c5:s[k]=48
          · by_cases c6:k+1<i
            · rw[if_pos (.inr ⟨c5,c6⟩)] at e
              rw[e]
              simp[h1,hp,c3,c4,hk,c5,w1,show (k:Int)+1<i by omega,optN]
            · rw[if_neg (by rintro (h | ⟨_,h⟩) <;> omega)] at e
              rw[e]
              simp[h1,hp,c3,c4,hk,c5,w1,show ¬(k:Int)+1<i by omega,optN]
          · have c5':¬(s[k].toNat:Int)=48:=fun h=>c5 (UInt8.toNat_inj.1 (show s[k].toNat=(48:UInt8).toNat from by have:(48:UInt8).toNat=48:=rfl;omega))
            rw[if_neg (by rintro (h | ⟨h,_⟩);exact c4 h;exact c5 h)] at e
            rw[e]
            simp[h1,hp,c3,c4,hk,c5',optN]
def rangeV (s:Str) (a:Int):Option (Int × Int × Nat):=match numV s a with
  | none=>none
  | some (n,e)=>rangeC s a n e (if s.getD e 0=44∧e<s.length then numV s ((e:Int)+1) else some (1,e))
where rangeC (s:Str) (a n:Int) (e:Nat):Option (Int × Nat)→Option (Int × Int × Nat)
  | none=>none
  | some (c,e2)=>if frangeV (if 0<c then n-1 else n) c=(s.drop a.toNat).take (e2-a.toNat) then some (if 0<c then n-1 else n,c,e2) else none
def optR (o:Option (Int × Int × Nat)):D:=match o with
  | some x=>.tup [.int .i64 x.1,.int .i64 x.2.1,.int .i64 x.2.2,.bool true]
  | none=>.tup [.int .i64 0,.int .i64 0,.int .i64 0,.bool false]
theorem range_tail {s:Str} {k e e2:Nat} {n c:Int} (h1:k≤e2):rangeV.rangeC s (k:Int) n e (some (c,e2))=if frangeV (if 0<c then n-1 else n) c=(s.drop k).take (e2-k) then some (if 0<c then n-1 else n,c,e2) else none:=by
  unfold rangeV.rangeC
  rw[Int.toNat_natCast]
@[simp] def S_scan_Range:List D→Prop × D:=spec2 (α:=Str) (β:=Int) (fun s _=>s.length≤1048576) (fun s a=>optR (rangeV s a))
theorem ct_scan_Range {P:Program} {f g1 g2:Nat} {G:Gam} (h:CodeOf P f 2 15 [2,3,4,5] (x_scan_Range g1 g2)) (hG:GamOk P G) (h1:G.find g1=some S_scan_Number) (h2:G.find g2=some S_scan_FormatRange):Has P f S_scan_Range:=h.has2 hG fun s a hp=>by
  cases hn:numV s a with
  | none =>
    have e:rangeV s a=none:=by unfold rangeV;rw[hn]
    rw[e]
    simp[x_scan_Range,h1,hp,hn,optN,optR]
  | some x =>
    obtain⟨n,e⟩:=x
    obtain⟨a0,n0,n1,ae,el⟩:=numV_rng hn
    simp only at n0 n1 ae el
    obtain⟨k,rfl⟩:=Int.eq_ofNat_of_zero_le a0
    simp only[Int.toNat_natCast] at ae
    have hr:rangeV s (k:Int)=rangeV.rangeC s k n e (if s.getD e 0=44∧e<s.length then numV s ((e:Int)+1) else some (1,e)):=by
      unfold rangeV
      rw[hn]
    have w1:IntKind.i64.wrap ((e:Int)+1)=(e:Int)+1:=wrap_in (by omega) (by omega)
    have w2:IntKind.i64.wrap (n-1)=n-1:=wrap_in (by omega) (by omega)
    have step:∀(c:Int) (e2:Nat),0≤c→k≤e2→rangeV s (k:Int)=rangeV.rangeC s k n e (some (c,e2)) →
        (0<c∧rangeV s (k:Int)=if frangeV (n-1) c=(s.drop k).take (e2-k) then some (n-1,c,e2) else none)∨(¬0<c∧rangeV s (k:Int)=if frangeV n c=(s.drop k).take (e2-k) then some (n,c,e2) else none):=fun c e2 h1 h2 h3=>by
      rw[range_tail h2] at h3
      by_cases hc:0<c
      · rw[if_pos hc] at h3;exact .inl ⟨hc,h3⟩
      · rw[if_neg hc] at h3;exact .inr ⟨hc,h3⟩
    by_cases hc:e<s.length
    · have hse:s.getD e 0=s[e]:=by simp[List.getD,hc]
      by_cases h44:s[e]=44
      · rw[if_pos ⟨by rw[hse];exact h44,hc⟩] at hr
        cases hn2:numV s ((e:Int)+1) with
        | none =>
          rw[hn2] at hr
          have hr:rangeV s (k:Int)=none:=hr
          rw[hr]
          simp[x_scan_Range,h1,hp,hn,optN,hc,h44,w1,hn2,optR]
        | some y =>
          obtain⟨c,e2⟩:=y
          obtain⟨_,c0,c1,_,e2l⟩:=numV_rng hn2
          have hae:=(numV_rng hn2).2.2.2.1
          simp only at c0 c1 e2l hae
          rw[hn2] at hr
          rcases step c e2 c0 (by omega) hr with ⟨hcp,hr⟩ | ⟨hcp,hr⟩
          · by_cases hfr:frangeV (n-1) c=(s.drop k).take (e2-k)
            · rw[if_pos hfr] at hr
              rw[hr]
              simp[x_scan_Range,h1,h2,hp,hn,optN,hc,h44,w1,w2,hn2,hcp,hfr,optR,show k≤e2 by omega,e2l]
            · rw[if_neg hfr] at hr
              rw[hr]
              simp[x_scan_Range,h1,h2,hp,hn,optN,hc,h44,w1,w2,hn2,hcp,hfr,optR,show k≤e2 by omega,e2l]
          · by_cases hfr:frangeV n c=(s.drop k).take (e2-k)
            · rw[if_pos hfr] at hr
              rw[hr]
              simp[x_scan_Range,h1,h2,hp,hn,optN,hc,h44,w1,w2,hn2,hcp,hfr,optR,show k≤e2 by omega,e2l]
            · rw[if_neg hfr] at hr
              rw[hr]
              simp[x_scan_Range,h1,h2,hp,hn,optN,hc,h44,w1,w2,hn2,hcp,hfr,optR,show k≤e2 by omega,e2l]
      · have h44':¬(s[e].toNat:Int)=44:=fun h=>h44 (UInt8.toNat_inj.1 (show s[e].toNat=(44:UInt8).toNat from by have:(44:UInt8).toNat=44:=rfl;omega))
        rw[if_neg (by rintro⟨h,_⟩;rw[hse] at h;exact h44 h)] at hr
        rcases step 1 e (by omega) ae hr with ⟨hcp,hr⟩ | ⟨hcp,hr⟩
        · by_cases hfr:frangeV (n-1) 1=(s.drop k).take (e-k)
          · rw[if_pos hfr] at hr
            rw[hr]
            simp[x_scan_Range,h1,h2,hp,hn,optN,hc,h44',w2,hfr,optR,ae,el]
          · rw[if_neg hfr] at hr
            rw[hr]
            simp[x_scan_Range,h1,h2,hp,hn,optN,hc,h44',w2,hfr,optR,ae,el]
        · omega
    · rw[if_neg (fun h=>hc h.2)] at hr
      rcases step 1 e (by omega) ae hr with ⟨hcp,hr⟩ | ⟨hcp,hr⟩
      · by_cases hfr:frangeV (n-1) 1=(s.drop k).take (e-k)
        · rw[if_pos hfr] at hr
          rw[hr]
          simp[x_scan_Range,h1,h2,hp,hn,optN,hc,w2,hfr,optR,ae,el]
        · rw[if_neg hfr] at hr
          rw[hr]
          simp[x_scan_Range,h1,h2,hp,hn,optN,hc,w2,hfr,optR,ae,el]
      · omega
@[simp] def S_scan_plain:List D→Prop × D:=spec1 (α:=U8T) (fun c=>0≤c.n∧c.n≤255) (fun c=>.bool (plainB (UInt8.ofNat c.n.toNat)))
theorem ct_scan_plain {P:Program} {f:Nat} {G:Gam} (h:CodeOf P f 1 2 [1] x_scan_plain) (hG:GamOk P G):Has P f S_scan_plain:=h.has1 hG fun c hp=>by
  obtain⟨n⟩:=c
  obtain⟨p1,p2⟩:=hp
  simp only at p1 p2
  obtain⟨k,rfl⟩:=Int.eq_ofNat_of_zero_le p1
  have hk:k<256:=by omega
  have e:plainB (UInt8.ofNat k)=(decide (33≤k) && decide (k≤126) && decide (k≠34) && decide (k≠92)):=by
    have:∀k:_root_.Fin 256,plainB (UInt8.ofNat k.val)=(decide (33≤k.val) && decide (k.val≤126) && decide (k.val≠34) && decide (k.val≠92)):=by decide +kernel
    exact this ⟨k,hk⟩
  simp only[Int.toNat_natCast,e]
  by_cases c1:33≤k
  · by_cases c2:k≤126
    · by_cases c3:k=34
      · subst c3;simp[x_scan_plain]
      · by_cases c4:k=92
        · subst c4;simp[x_scan_plain]
        · simp[x_scan_plain,c1,c2,c3,c4,show (33:Int)≤(k:Int) by omega,show (k:Int)≤126 by omega,show ¬(k:Int)=34 by omega,show ¬(k:Int)=92 by omega]
    · simp[x_scan_plain,c1,c2,show (33:Int)≤(k:Int) by omega,show ¬(k:Int)≤126 by omega]
  · simp[x_scan_plain,c1,show ¬(33:Int)≤(k:Int) by omega]
def octB (s:Str) (i:Nat):Bool:=match s[i]? with
  | some c=>decide (48≤c.toNat) && decide (c.toNat≤55)
  | none=>false
theorem octB_lt {s:Str} {i:Nat} (h:octB s i=true):i<s.length:=by
  unfold octB at h
  split at h
  · rename_i c hc
    exact (List.getElem?_eq_some_iff.1 hc).1
  · cases h
def octL (s:Str):Nat→Nat→Nat→Option Nat × Nat
  | 0,n,i=>(some n,i)
  | k+1,n,i=>if octB s i=true then octL s k (8 * n+((s.getD i 0).toNat-48)) (i+1) else (none,i)
def octV (s:Str) (i:Nat):(UInt8 × Bool) × Nat:=match octL s 3 0 i with
  | (some n,j)=>((UInt8.ofNat n,decide (n<256)),j)
  | (none,j)=>((0,false),j)
def escpV (s:Str) (i:Nat):(UInt8 × Bool) × Nat:=match s[i]? with
  | none=>((0,false),i)
  | some c=>if c=34∨c=92 then ((c,true),i+1) else if c=110 then ((10,true),i+1) else if c=116 then ((9,true),i+1) else octV s i
theorem octL_rng {s:Str}:∀{k n i:Nat},i≤s.length→i≤(octL s k n i).2∧(octL s k n i).2≤s.length
  | 0,n,i,h=>⟨Nat.le_refl _,h⟩
  | k+1,n,i,h=>by
    unfold octL
    split
    · rename_i hd
      have:=octB_lt hd
      have:=octL_rng (s:=s) (k:=k) (n:=8 * n+((s.getD i 0).toNat-48)) (i:=i+1) (by omega)
      exact⟨by omega,this.2⟩
    · exact⟨Nat.le_refl _,h⟩
theorem octV_rng {s:Str} {i:Nat} (h:i≤s.length):i≤(octV s i).2∧(octV s i).2≤s.length:=by
  have:=octL_rng (s:=s) (k:=3) (n:=0) h
  unfold octV
  generalize octL s 3 0 i=x at *
  obtain⟨o,j⟩:=x
  cases o <;> exact this
theorem escpV_rng {s:Str} {i:Nat} (h:i≤s.length):i≤(escpV s i).2∧(escpV s i).2≤s.length:=by
  unfold escpV
  split
  · exact⟨Nat.le_refl _,h⟩
  · rename_i c hc
    have:=(List.getElem?_eq_some_iff.1 hc).1
    split
    · exact⟨by simp,by simp only;omega⟩
    · split
      · exact⟨by simp,by simp only;omega⟩
      · split
        · exact⟨by simp,by simp only;omega⟩
        · exact octV_rng h
def quotL (s:Str):Nat→Str→Nat→Option Str × Nat
  | 0,_,i=>(none,i)
  | f+1,b,i=>match s[i]? with
    | none=>(none,i)
    | some c=>if c=34 then (some b,i+1) else if c=92 then (if (escpV s (i+1)).1.2=true then quotL s f (b++[(escpV s (i+1)).1.1]) (escpV s (i+1)).2 else (none,(escpV s (i+1)).2)) else quotL s f (b++[c]) (i+1)
def quotV (s:Str) (i:Nat):Option Str × Nat:=quotL s (s.length-i+1) [] i
theorem quotL_fuel {s:Str}:∀(f g:Nat) (b:Str) (i:Nat),i≤s.length→s.length-i<f→s.length-i<g→quotL s f b i=quotL s g b i
  | 0,_,_,_,_,h,_=>by omega
  | _+1,0,_,_,_,_,h=>by omega
  | f+1,g+1,b,i,hi,h1,h2=>by
    unfold quotL
    cases hc:s[i]? with
    | none=>rfl
    | some c =>
      have hil:=(List.getElem?_eq_some_iff.1 hc).1
      have he:=escpV_rng (s:=s) (i:=i+1) (by omega)
      simp only
      split
      · rfl
      · split
        · split
          · exact quotL_fuel f g _ _ he.2 (by omega) (by omega)
          · rfl
        · exact quotL_fuel f g _ _ (by omega) (by omega) (by omega)
def splitF (cur:Str):Str→List Str
  | []=>[cur]
  | c::s=>if c=10 then (cur++[c])::splitF [] s else splitF (cur++[c]) s
def linesF (cur:Str):Str→List Str
  | []=>if cur=[] then [] else [cur]
  | c::s=>if c=10 then (cur++[c])::linesF [] s else linesF (cur++[c]) s
def linesV (s:Str):List Str:=linesF [] s
theorem splitF_lines:∀(s cur:Str),∃l r,splitF cur s=l++[r]∧linesF cur s=if r=[] then l else l++[r]
  | [],cur=>⟨[],cur,rfl,by simp[linesF]⟩
  | c::s,cur=>by
    by_cases h:c=10
    · obtain⟨l,r,h1,h2⟩:=splitF_lines s []
      refine⟨(cur++[c])::l,r,by simp[splitF,h,h1],?_⟩
      simp only[linesF,h,if_true,h2]
      split <;> simp
    · obtain⟨l,r,h1,h2⟩:=splitF_lines s (cur++[c])
      exact⟨l,r,by simp[splitF,h,h1],by simp[linesF,h,h2]⟩
theorem occ10 (s:Str) (j:Nat):Lib.occAt s [10] j=true↔s[j]?=some 10:=by
  unfold Lib.occAt
  rw[← List.head?_drop]
  cases h:s.drop j with
  | nil=>simp
  | cons a t=>simp[List.isPrefixOf];exact eq_comm
theorem splitF_none:∀(s cur:Str),(∀j:Nat,s[j]?≠some 10)→splitF cur s=[cur++s]
  | [],cur,_=>by simp[splitF]
  | c::s,cur,h=>by
    have h0:c≠10:=by simpa using h 0
    have ih:=splitF_none s (cur++[c]) fun j=>by simpa using h (j+1)
    simp[splitF,h0,ih]
theorem splitF_some:∀(s cur:Str) (i:Nat),s[i]?=some 10→(∀j:Nat,j<i→s[j]?≠some 10)→splitF cur s=(cur++s.take (i+1))::splitF [] (s.drop (i+1))
  | [],cur,i,h,_=>by simp at h
  | c::s,cur,0,h,_=>by
    have:c=10:=by simpa using h
    simp[splitF,this]
  | c::s,cur,i+1,h,h2=>by
    have h0:c≠10:=by simpa using h2 0 (by omega)
    have ih:=splitF_some s (cur++[c]) i (by simpa using h) fun j hj=>by simpa using h2 (j+1) (by omega)
    simp[splitF,h0,ih]
theorem first10 (s:Str):(∀j:Nat,s[j]?≠some 10)∨∃i,s[i]?=some 10∧∀j:Nat,j<i→s[j]?≠some 10:=by
  induction s with
  | nil=>exact .inl fun j=>by simp
  | cons c s ih =>
    by_cases h:c=10
    · exact .inr ⟨0,by simp[h],fun j hj=>absurd hj (by omega)⟩
    · rcases ih with h1 | ⟨i,h1,h2⟩
      · refine .inl fun j=>?_
        cases j with
        | zero=>simpa using h
        | succ j=>simpa using h1 j
      · refine .inr ⟨i+1,by simpa using h1,fun j hj=>?_⟩
        cases j with
        | zero=>simpa using h
        | succ j=>simpa using h2 j (by omega)
theorem splitK_lines:∀(k:Nat) (s:Str),Lib.count s [10]=k→Lib.splitK [10] 1 k s=splitF [] s:=by
  intro k
  induction k with
  | zero =>
    intro s hk
    rcases first10 s with h | ⟨i,h1,h2⟩
    · rw[splitF_none s [] h];rfl
    · have hi:Lib.index s [10]=i:=Lib.index_first (by have:=List.getElem?_eq_some_iff.1 h1;obtain⟨h3,_⟩:=this;omega) ((occ10 s i).2 h1) fun j hj=>by
        have:=h2 j hj
        cases h3:Lib.occAt s [10] j with
        | false=>rfl
        | true=>exact absurd ((occ10 s j).1 h3) this
      have:=Lib.count_hit (by simp) hi
      omega
  | succ k ih =>
    intro s hk
    rcases first10 s with h | ⟨i,h1,h2⟩
    · have hi:Lib.index s [10]=-1:=Lib.index_none fun j hj=>by
        cases h3:Lib.occAt s [10] j with
        | false=>rfl
        | true=>exact absurd ((occ10 s j).1 h3) (h j)
      have:=Lib.count_miss hi
      omega
    · have hi:Lib.index s [10]=i:=Lib.index_first (by have:=List.getElem?_eq_some_iff.1 h1;obtain⟨h3,_⟩:=this;omega) ((occ10 s i).2 h1) fun j hj=>by
        have:=h2 j hj
        cases h3:Lib.occAt s [10] j with
        | false=>rfl
        | true=>exact absurd ((occ10 s j).1 h3) this
      have hc:=Lib.count_hit (by simp) hi
      have hn:¬((i:Int) == -1)=true:=by simp
      simp only[Lib.splitK,hi,hn,if_false,Int.toNat_natCast,List.length_singleton]
      simp only[List.length_singleton] at hc
      rw[ih _ (by omega),splitF_some s [] i h1 h2]
      simp
theorem linesF_count:∀(s cur:Str),(linesF cur s).length=s.count 10+if cur++s=[]∨(cur++s).getLast?=some 10∧s≠[] then 0 else 1
  | [],cur=>by
    by_cases h:cur=[] <;> simp[linesF,h]
  | c::s,cur=>by
    by_cases h:c=10
    · subst h
      have ih:=linesF_count s []
      simp only[linesF,if_true,List.length_cons,ih,List.nil_append,List.count_cons_self]
      by_cases hs:s=[]
      · subst hs;simp
      · simp only[hs,false_or,ne_eq,not_false_eq_true,and_true]
        have e:(cur++10::s).getLast?=s.getLast?:=by
          rw[List.getLast?_append]
          obtain⟨a,t,rfl⟩:=List.exists_cons_of_ne_nil hs
          simp[List.getLast?_cons]
        rw[e]
        simp only[List.append_eq_nil_iff,List.cons_ne_nil,and_false,reduceCtorEq,not_false_eq_true,and_true,false_or]
        omega
    · have ih:=linesF_count s (cur++[c])
      simp only[linesF,h,if_false,ih,List.append_assoc,List.singleton_append,List.count_cons_of_ne h]
      by_cases hs:s=[]
      · subst hs
        simp[h]
      · simp[hs]
theorem linesF_flat:∀(s cur:Str),(linesF cur s).flatten=cur++s
  | [],cur=>by by_cases h:cur=[] <;> simp[linesF,h]
  | c::s,cur=>by
    by_cases h:c=10
    · simp[linesF,h,linesF_flat s []]
    · simp[linesF,h,linesF_flat s (cur++[c])]
def modV (a n:Int):Int:=(a % 18446744073709551616) % n
theorem modV_lt (a:Int) {n:Int} (h:1≤n):0≤modV a n∧modV a n<n:=⟨Int.emod_nonneg _ (by omega),Int.emod_lt_of_pos _ (by omega)⟩
@[simp] def S_gen_Mod:List D→Prop × D:=spec2 (α:=Int) (β:=Int) (fun _ n=>1≤n∧n≤9223372036854775807) (fun a n=>Rep.to (modV a n))
theorem ct_gen_Mod {P:Program} {f:Nat} {G:Gam} (h:CodeOf P f 2 3 [2] x_gen_Mod) (hG:GamOk P G):Has P f S_gen_Mod:=h.has2 hG fun a n hp=>by
  obtain⟨h,h2⟩:=hp
  simp[x_gen_Mod]
  have e1:IntKind.u64.wrap n=n:=by simp[IntKind.wrap,IntKind.bits,IntKind.signed];omega
  have e2:IntKind.u64.wrap a=a % 18446744073709551616:=by simp[IntKind.wrap,IntKind.bits,IntKind.signed]
  rw[e1,e2]
  refine⟨by omega,?_⟩
  have e3:(a % 18446744073709551616).tmod n=modV a n:=by
    rw[Int.tmod_eq_emod_of_nonneg (by omega)];rfl
  have:=modV_lt a h
  rw[e3,wrap_in] <;> omega
def lines:List Str:=[[97],[98],[99],[97,98],[98,97],[],[97,97],[98,32,97],[120,43,121],[92]]
def lineV (k:Int):Str:=lines.getD (modV k 10).toNat []
@[simp] def S_gen_Line:List D→Prop × D:=spec1 (α:=Int) (fun _=>True) (fun a=>Rep.to (lineV a))
theorem ct_gen_Line {P:Program} {f g:Nat} {G:Gam} (h:CodeOf P f 1 2 [1] (x_gen_Line g)) (hG:GamOk P G) (hg:G.find g=some S_gen_Mod):Has P f S_gen_Line:=h.has1 hG fun k _=>by
  simp[x_gen_Line,hg]
  obtain⟨h1,h2⟩:=modV_lt k (n:=10) (by omega)
  refine⟨⟨h1,h2⟩,?_⟩
  unfold lineV
  generalize modV k 10=r at *
  obtain⟨n,rfl⟩:=Int.eq_ofNat_of_zero_le h1
  have hn:n<10:=by omega
  rw[show ([D.str [97],D.str [98],D.str [99],D.str [97,98],D.str [98,97],D.str [],D.str [97,97],D.str [98,32,97],D.str [120,43,121],D.str [92]]:List D)=lines.map Rep.to from rfl]
  have e:((lines.map Rep.to)[(n:Int).toNat]?.getD default:D)=D.str (lines.getD n []):=by
    have hl:n<lines.length:=hn
    simp[hl,List.getD]
  rw[e]
  simp
def xorV (a b:Int):Int:=IntKind.u64.wrap ((a % 2 ^ IntKind.u64.bits).toNat ^^^ (b % 2 ^ IntKind.u64.bits).toNat:Nat)
def hashV (x:Int):Int:=IntKind.u64.wrap (xorV x (x.fdiv (2 ^ min 31 IntKind.u64.bits)) * 13787848793156543929)
def finV (x:Int):Int:=IntKind.i64.wrap ((xorV x (x.fdiv (2 ^ min 29 IntKind.u64.bits))).fdiv (2 ^ min 1 IntKind.u64.bits))
theorem lockT:(fun _:Int=>True)=(fun x:Int=>x=x):=funext fun _=>propext ⟨fun _=>rfl,fun _=>trivial⟩
def lock (v:Int):Int:=(cast (congrArg Subtype lockT) (⟨v,trivial⟩:{_x:Int // True}):{x:Int // x=x}).1
theorem lock_gen {p q:Int→Prop} (h:p=q) (v:Int) (hv:p v):(cast (congrArg Subtype h) (⟨v,hv⟩:Subtype p):Subtype q).1=v:=by subst h;rfl
theorem lock_eq (v:Int):lock v=v:=lock_gen lockT v trivial
def atU (raw:List Int) (k:Int):Int :=
  let x0:=IntKind.u64.wrap (IntKind.u64.wrap (IntKind.i64.wrap (k+1)) * 11400714819323198485)
  finV (hashV (if raw=[] then x0 else xorV x0 (IntKind.u64.wrap (raw.getD (k.toNat % raw.length) 0))))
def atV (raw:List Int) (k:Int):Int:=lock (atU raw k)
theorem atV_eq (raw:List Int) (k:Int):atV raw k=atU raw k:=lock_eq _
theorem atV_range (raw:List Int) (k:Int):0≤atV raw k∧atV raw k≤9223372036854775807:=by
  rw[atV_eq]
  unfold atU
  simp only
  generalize (hashV _)=y
  unfold finV
  have h1:0≤xorV y (y.fdiv (2 ^ min 29 IntKind.u64.bits))∧xorV y (y.fdiv (2 ^ min 29 IntKind.u64.bits))<18446744073709551616:=by
    unfold xorV
    generalize (_ ^^^ _:Nat)=z
    simp[IntKind.wrap,IntKind.bits,IntKind.signed]
    omega
  generalize xorV _ _=z at h1
  have h2:z.fdiv (2 ^ min 1 IntKind.u64.bits)=z / 2:=by
    rw[Int.fdiv_eq_ediv_of_nonneg _ (by simp[IntKind.bits])];rfl
  rw[h2,wrap_in] <;> omega
@[simp] def S_gen_At:List D→Prop × D:=spec2 (α:=List Int) (β:=Int) (fun raw k=>0≤k∧k<9223372036854775807∧raw.length≤9223372036854775807) (fun raw k=>Rep.to (atV raw k))
theorem ct_gen_At {P:Program} {f:Nat} {G:Gam} (h:CodeOf P f 2 5 [2] x_gen_At) (hG:GamOk P G):Has P f S_gen_At:=h.has2 hG fun raw k hp=>by
  obtain⟨h1,h2,h3⟩:=hp
  obtain⟨n,rfl⟩:=Int.eq_ofNat_of_zero_le h1
  simp[x_gen_At]
  refine⟨fun h4=>?_,fun h4=>?_⟩
  · have e:(n:Int).tmod raw.length=((n % raw.length:Nat):Int):=by rw[Int.tmod_eq_emod_of_nonneg (by omega)];simp
    have h5:n % raw.length<raw.length:=Nat.mod_lt _ h4
    have h6:raw≠[]:=by intro h;simp[h] at h4
    have ha:atV raw n=finV (hashV (xorV (IntKind.u64.wrap (IntKind.u64.wrap (IntKind.i64.wrap (n+1)) * 11400714819323198485)) (IntKind.u64.wrap raw[n % raw.length]))):=by
      simp[atV_eq,atU,h6,List.getD,h5]
    rw[e,ha]
    generalize n % raw.length=q at h5
    simp[h5,h6,getD_map]
    rfl
  · rw[atV_eq]
    unfold atU
    simp only[h4,if_true]
    rfl
/-! what the library's functions answer -/
@[simp] def S_strings_Count:List D→Prop × D:=spec2 (α:=Str) (β:=Str) (fun _ n=>n.length=1) (fun s n=>.int .i64 (s.count (n.getD 0 0)))
@[simp] def S_strings_HasSuffix:List D→Prop × D:=spec2 (α:=Str) (β:=Str) (fun s _=>s.length≤9223372036854775807) (fun s p=>.bool (Lib.hasSuffix s p))
@[simp] def S_strings_TrimSuffix:List D→Prop × D:=spec2 (α:=Str) (β:=Str) (fun s _=>s.length≤9223372036854775807) (fun s p=>.str (Lib.trimSuffix s p))
@[simp] def S_strings_IndexByte:List D→Prop × D
  | [.str s,.int .u8 c]=>(0≤c∧c<256,.int .i64 (Lib.indexByte s c.toNat.toUInt8))
  | _=>(False,.nilp)
@[simp] def S_strings_Join:List D→Prop × D:=spec2 (α:=List Str) (β:=Str) (fun l sep=>l.length≤140737488355328∧(Lib.join l sep).length≤140737488355328) (fun l sep=>.str (Lib.join l sep))
@[simp] def S_strings_genSplit:List D→Prop × D
  | [.str s,.str sep,.int .i64 sv,.int .i64 n]=>(sep.length=1∧0≤sv∧sv≤1∧n=-1∧s.length<4294967281,Rep.to (α:=List Str) (Lib.splitK sep sv.toNat (Lib.count s sep) s))
  | _=>(False,.nilp)
@[simp] def S_strings_SplitAfter:List D→Prop × D:=spec2 (α:=Str) (β:=Str) (fun s sep=>sep.length=1∧s.length<4294967281) (fun s sep=>Rep.to (Lib.splitK sep 1 (Lib.count s sep) s))
theorem ct_strings_SplitAfter {P:Program} {f g:Nat} {G:Gam} (h:CodeOf P f 2 3 [2] (x_strings_SplitAfter g)) (hG:GamOk P G) (hg:G.find g=some S_strings_genSplit):Has P f S_strings_SplitAfter:=h.has2 hG fun s sep hp=>by
  obtain⟨h1,h2⟩:=hp
  simp[x_strings_SplitAfter,hg,h1,h2]
def endedV (s:Str):Bool:=decide (s.getLast?=some 10)
def bareV (s:Str):Str:=if endedV s then s.dropLast else s
theorem hasSuffix_ended (s:Str):Lib.hasSuffix s [10]=endedV s:=by
  unfold Lib.hasSuffix endedV
  by_cases h:s.getLast?=some 10
  · obtain⟨t,rfl⟩:=List.getLast?_eq_some_iff.1 h
    simp[List.isSuffixOf_iff_suffix]
  · simp only[h,decide_false]
    cases h2:[10].isSuffixOf s with
    | false=>rfl
    | true =>
      obtain⟨t,rfl⟩:=List.isSuffixOf_iff_suffix.1 h2
      simp at h
theorem trimSuffix_bare (s:Str):Lib.trimSuffix s [10]=bareV s:=by
  unfold Lib.trimSuffix bareV
  rw[hasSuffix_ended,List.dropLast_eq_take]
  rfl
@[simp] def S_text_Ended:List D→Prop × D:=spec1 (α:=Str) (fun s=>s.length≤9223372036854775807) (fun s=>.bool (endedV s))
theorem ct_text_Ended {P:Program} {f g:Nat} {G:Gam} (h:CodeOf P f 1 2 [1] (x_text_Ended g)) (hG:GamOk P G) (hg:G.find g=some S_strings_HasSuffix):Has P f S_text_Ended:=h.has1 hG fun s hp=>by
  simp[x_text_Ended,hg,hp,hasSuffix_ended]
@[simp] def S_text_Bare:List D→Prop × D:=spec1 (α:=Str) (fun s=>s.length≤9223372036854775807) (fun s=>.str (bareV s))
theorem ct_text_Bare {P:Program} {f g:Nat} {G:Gam} (h:CodeOf P f 1 2 [1] (x_text_Bare g)) (hG:GamOk P G) (hg:G.find g=some S_strings_TrimSuffix):Has P f S_text_Bare:=h.has1 hG fun s hp=>by
  simp[x_text_Bare,hg,hp,trimSuffix_bare]
theorem linesV_len (s:Str):(linesV s).length=s.count 10+if s≠[]∧endedV s=false then 1 else 0:=by
  rw[linesV,linesF_count]
  simp only[List.nil_append]
  by_cases h:s=[]
  · subst h;simp[endedV]
  · by_cases h2:s.getLast?=some 10 <;> simp[h,h2,endedV]
def checkT (s:Str):Int:=if s.length≤1048576∧(linesV s).length≤4096 then 0 else 1
def lenOk (s:Str):Prop:=s.length≤9223372036854775807
@[simp] theorem lenOk_4 {s:Str} (h:s.length≤4194304):lenOk s:=by unfold lenOk;omega
@[simp] theorem lenOk_1 {s:Str} (h:s.length≤1048576):lenOk s:=by unfold lenOk;omega
@[simp] theorem lenOk_9 {s:Str} (h:s.length≤9223372036854775807):lenOk s:=h
@[simp] def S_text_Check:List D→Prop × D:=spec1 (α:=Str) lenOk (fun s=>.int .i64 (checkT s))
theorem ct_text_Check {P:Program} {f g1 g2:Nat} {G:Gam} (h:CodeOf P f 1 5 [1] (x_text_Check g1 g2)) (hG:GamOk P G) (h1:G.find g1=some S_strings_Count) (h2:G.find g2=some S_text_Ended):Has P f S_text_Check:=h.has1 hG fun s hp=>by
  have hc:s.count 10≤s.length:=List.count_le_length
  have hl:=linesV_len s
  have hp':s.length≤9223372036854775807:=hp
  have key:∀m:Nat,(linesV s).length=m→checkT s=if (1048576:Int)<s.length then 1 else if (4096:Int)<m then 1 else 0:=by
    intro m hm
    unfold checkT
    rw[hm]
    by_cases a:(1048576:Int)<s.length
    · rw[if_neg (by omega),if_pos a]
    · rw[if_neg a]
      by_cases b:(4096:Int)<m
      · rw[if_neg (by omega),if_pos b]
      · rw[if_pos (by omega),if_neg b]
  by_cases c0:s≠[]∧endedV s=false
  · obtain⟨c1,c2⟩:=c0
    have hlt:s.count 10<s.length:=by
      rcases Nat.lt_or_ge (s.count 10) s.length with h | h
      · exact h
      · have h2:=List.count_eq_length.1 (Nat.le_antisymm hc h)
        have h3:=h2 _ (List.getLast_mem c1)
        rw[endedV,List.getLast?_eq_some_getLast c1,← h3] at c2
        simp at c2
    have w1:IntKind.i64.wrap ((s.count 10:Int)+1)=(s.count 10:Int)+1:=wrap_in (by omega) (by omega)
    rw[if_pos ⟨c1,c2⟩] at hl
    have k:=key _ hl
    rw[k]
    by_cases a:(1048576:Int)<s.length <;> by_cases b:(4096:Int)<((s.count 10+1:Nat):Int) <;>
      (have b':=b;push_cast at b';simp[x_text_Check,h1,h2,hp',c1,c2,w1,a,b,b'])
  · rw[if_neg c0] at hl
    have k:=key _ hl
    rw[k]
    by_cases c1:s=[]
    · subst c1
      simp[x_text_Check,h1,h2]
    · have c2:endedV s=true:=by
        cases h3:endedV s with
        | true=>rfl
        | false=>exact absurd ⟨c1,h3⟩ c0
      simp only[Nat.add_zero]
      by_cases a:(1048576:Int)<s.length <;> by_cases b:(4096:Int)<((s.count 10:Nat):Int) <;>
        simp[x_text_Check,h1,h2,hp',c1,c2,a,b]
def splitD (s:Str):D:=if checkT s=0 then .tup [Rep.to (linesV s),.int .i64 0] else .tup [.nilsl,.int .i64 1]
@[simp] def S_text_Split:List D→Prop × D:=spec1 (α:=Str) (fun s=>s.length≤4194304) (fun s=>splitD s)
theorem ct_text_Split {P:Program} {f g1 g2:Nat} {G:Gam} (h:CodeOf P f 1 7 [1,2] (x_text_Split g1 g2)) (hG:GamOk P G) (h1:G.find g1=some S_text_Check) (h2:G.find g2=some S_strings_SplitAfter):Has P f S_text_Split:=h.has1 hG fun s hp=>by
  have hp':s.length<4294967281:=by omega
  by_cases c:checkT s=0
  · obtain⟨l,r,e1,e2⟩:=splitF_lines s []
    have e3:=splitK_lines _ s rfl
    rw[e1] at e3
    have e4:linesV s=if r=[] then l else l++[r]:=e2
    have hll:l.length≤4096:=by
      have:checkT s=0:=c
      unfold checkT at this
      split at this
      · rename_i h3
        rw[e4] at h3
        split at h3
        · exact h3.2
        · have:=h3.2;simp at this;omega
      · simp at this
    have w1:IntKind.i64.wrap (l.length:Int)=(l.length:Int):=wrap_in (by omega) (by omega)
    have e5:splitD s=.tup [Rep.to (linesV s),.int .i64 0]:=if_pos c
    rw[e5,e4]
    by_cases hr:r=[]
    · simp[x_text_Split,h1,h2,hp,hp',c,e3,w1,hr]
      omega
    · simp[x_text_Split,h1,h2,hp,hp',c,e3,w1,hr]
      omega
  · have c1:checkT s=1:=by
      unfold checkT at *
      split at c <;> simp_all
    have e5:splitD s=.tup [.nilsl,.int .i64 1]:=if_neg c
    rw[e5]
    simp[x_text_Split,h1,hp,c1]
@[simp] def S_ref02_Lines:List D→Prop × D:=spec1 (α:=Str) (fun s=>s.length≤4194304) (fun s=>Rep.to (linesV s))
theorem ct_ref02_Lines {P:Program} {f:Nat} {G:Gam} (h:CodeOf P f 1 7 [1] x_ref02_Lines) (hG:GamOk P G):Has P f S_ref02_Lines:=h.has1 hG fun s hp=>by
  simp[x_ref02_Lines]
  refine vc_lp (σ:=Nat × Nat × List Str) (fun x=>x.1≤x.2.1∧x.2.1≤s.length∧x.2.2.length≤x.2.1∧(x.2.1<s.length∨x.1=x.2.1)∧x.2.2++linesF ((s.take x.2.1).drop x.1) (s.drop x.2.1)=linesV s) (fun x=>s.length-x.2.1)
    (fun x=>[.d (Rep.to s),.any,.gr 0 1 (x.2.2.map Rep.to),.d (.int .i64 x.1),.d (.int .i64 x.2.1),.any,.any]) (fun x=>[.tip x.2.2.length]) (0,0,[]) (by simp) (by simp) ⟨by simp,by simp,by simp,by simp,by simp[linesV]⟩ ?_
  rintro⟨fr,i,o⟩ ⟨b1,b2,b3,b5,b4⟩
  simp only at b1 b2 b3 b4 b5
  by_cases hi:i<s.length
  · have w1:IntKind.i64.wrap ((i:Int)+1)=((i+1:Nat):Int):=by rw[wrap_in (by omega) (by omega)];omega
    have ed:s.drop i=s[i]::s.drop (i+1):=List.drop_eq_getElem_cons hi
    have et:(s.take (i+1)).drop fr=(s.take i).drop fr++[s[i]]:=by
      rw[List.take_succ_eq_append_getElem hi,List.drop_append_of_le_length (by simp;omega)]
    have es:List.take (i+1-fr) (s.drop fr)=(s.take (i+1)).drop fr:=by rw[List.drop_take]
    rw[ed] at b4
    simp only[linesF,← et] at b4
    have i2:(i:Int)+1≤s.length:=by omega
    have i3:(fr:Int)≤(i:Int)+1:=by omega
    have e:((s[i].toNat:Int)=10)=(s[i]=10):=by
      apply propext
      constructor
      · intro h
        exact UInt8.toNat_inj.1 (by simp;omega)
      · intro h;rw[h];rfl
    have en:(s.take (i+1)).drop (i+1)=[]:=List.drop_eq_nil_of_le (by simp;omega)
    by_cases c:s[i]=10
    · rw[if_pos c] at b4
      simp[hi,w1,e,c,i2,i3]
      rw[es]
      exact⟨by unfold room;omega,Nxt.mk (i+1,i+1,o++[(s.take (i+1)).drop fr]) (by simp;omega) (by simp) (by simp) ⟨by simp,by simp;omega,by simp;omega,by simp,by simp only[en];rw[← b4];simp⟩⟩
    · rw[if_neg c] at b4
      by_cases l:i+1=s.length
      · have l':s.length=i+1:=by omega
        have ez:s.drop (i+1)=[]:=List.drop_eq_nil_of_le (by omega)
        have ec:(s.take (i+1)).drop fr≠[]:=by
          intro hh
          have:=congrArg List.length hh
          simp at this
          omega
        rw[ez] at b4
        simp only[linesF,ec,if_false] at b4
        have i4:(i:Int)<(i:Int)+1:=by omega
        simp[l',w1,e,c,i3,i4]
        rw[es]
        refine⟨by unfold room;omega,Nxt.mk (i+1,i+1,o++[(s.take (i+1)).drop fr]) (by simp) (by simp) (by simp) ⟨by simp,by simp,by simp;omega,by simp,?_⟩⟩
        simp only[en,ez,linesF,if_true]
        rw[← b4]
        simp
      · have l':¬((i:Int)+1=s.length):=by omega
        simp[hi,w1,e,c,l']
        exact Nxt.mk (fr,i+1,o) (by simp;omega) (by simp) (by simp) ⟨by simp only;omega,by simp only;omega,by simp only;omega,by simp only;omega,by simpa using b4⟩
  · have h1:i=s.length:=by omega
    subst h1
    have h2:fr=s.length:=by omega
    subst h2
    simp[linesF] at b4
    simp[b4]
def okL (x:Str):Bool:=decide (x≠[]∧(10:UInt8) ∉ x.dropLast)
def listV:List Str→Bool
  | []=>true
  | [x]=>okL x
  | x::y::r=>okL x && endedV x && listV (y::r)
theorem listV_cons {x:Str} {l:List Str} (h1:okL x=true) (h2:endedV x=true) (h3:listV l=true):listV (x::l)=true:=by
  cases l with
  | nil=>exact h1
  | cons y r=>simp[listV,h1,h2,h3]
theorem listV_lines:∀(s cur:Str),(10:UInt8) ∉ cur→listV (linesF cur s)=true
  | [],cur,h=>by
    by_cases hc:cur=[]
    · simp[linesF,hc,listV]
    · simp only[linesF,hc,if_false,listV,okL,ne_eq,not_false_eq_true,true_and,decide_eq_true_eq]
      exact fun hm=>h (List.dropLast_subset _ hm)
  | c::s,cur,h=>by
    by_cases hc:c=10
    · subst hc
      simp only[linesF,if_true]
      exact listV_cons (by simp[okL,h]) (by simp[endedV]) (listV_lines s [] (by simp))
    · simp only[linesF,hc,if_false]
      refine listV_lines s (cur++[c]) ?_
      simp[h]
      exact fun e=>hc e.symm
theorem indexByte_last:∀(t:Str) (c:UInt8),((10:UInt8)∈t→0≤Lib.indexByte (t++[c]) 10∧Lib.indexByte (t++[c]) 10<t.length)∧((10:UInt8) ∉ t→Lib.indexByte (t++[c]) 10=if c=10 then (t.length:Int) else -1)
  | [],c=>by
    by_cases h:c=10 <;> simp[Lib.indexByte,h]
  | a::t,c=>by
    obtain⟨h1,h2⟩:=indexByte_last t c
    by_cases ha:a=10
    · subst ha
      simp[Lib.indexByte]
    · have ha':¬(10:UInt8)=a:=fun e=>ha e.symm
      have e:Lib.indexByte (a::t++[c]) 10=if Lib.indexByte (t++[c]) 10=-1 then -1 else Lib.indexByte (t++[c]) 10+1:=by
        simp[Lib.indexByte,ha]
      rw[e]
      constructor
      · intro h
        have h':(10:UInt8)∈t:=by simpa [ha'] using h
        have:=h1 h'
        rw[if_neg (by omega)]
        simp
        omega
      · intro h
        have h':(10:UInt8) ∉ t:=fun hm=>h (by simp[hm])
        rw[h2 h']
        by_cases hc:c=10
        · simp only[hc,if_true]
          rw[if_neg (by omega)]
          simp
        · simp[hc]
def blobS (raw:List Int) (fr kinds:Int) (k:Nat):Str:=(List.range k).flatMap fun (i:Nat)=>lineV (modV (atV raw (fr+1+i)) kinds)++[10]
theorem blobS_succ (raw:List Int) (fr kinds:Int) (k:Nat):blobS raw fr kinds (k+1)=blobS raw fr kinds k++lineV (modV (atV raw (fr+1+k)) kinds)++[10]:=by
  simp[blobS,List.range_succ]
def blobV (raw:List Int) (fr n kinds:Int):Str :=
  let s:=blobS raw fr kinds (modV (atV raw fr) (n+1)).toNat
  if (atV raw (fr+90)).tmod 4=0∧1<s.length∧s.getD (s.length-2) 0≠10 then s.dropLast else s
theorem lines_good:∀x,x∈lines→x.length≤3∧x.count 10=0:=by decide
theorem lineV_good (k:Int):(lineV k).length≤3∧(lineV k).count 10=0:=by
  obtain⟨h1,h2⟩:=modV_lt k (n:=10) (by omega)
  unfold lineV
  have hl:(modV k 10).toNat<lines.length:=by
    have:lines.length=10:=rfl
    omega
  have e:lines.getD (modV k 10).toNat []=lines[(modV k 10).toNat]:=by simp[List.getD,hl]
  rw[e]
  exact lines_good _ (List.getElem_mem hl)
theorem blobS_good (raw:List Int) (fr kinds:Int):∀k,(blobS raw fr kinds k).length≤4 * k∧(blobS raw fr kinds k).count 10=k
  | 0=>by simp[blobS]
  | k+1=>by
    obtain⟨h1,h2⟩:=blobS_good raw fr kinds k
    obtain⟨h3,h4⟩:=lineV_good (modV (atV raw (fr+1+k)) kinds)
    rw[blobS_succ]
    simp only[List.length_append,List.count_append,List.length_singleton,h2,h4]
    simp
    omega
theorem blobV_good (raw:List Int) (fr kinds:Int) {n:Int} (hn:0≤n):(blobV raw fr n kinds).length≤4 * n.toNat∧(blobV raw fr n kinds).count 10≤n.toNat:=by
  obtain⟨m1,m2⟩:=modV_lt (atV raw fr) (n:=n+1) (by omega)
  obtain⟨h1,h2⟩:=blobS_good raw fr kinds (modV (atV raw fr) (n+1)).toNat
  have e:(modV (atV raw fr) (n+1)).toNat≤n.toNat:=by omega
  unfold blobV
  generalize blobS raw fr kinds (modV (atV raw fr) (n+1)).toNat=s at *
  simp only
  split
  · have hs:=(List.dropLast_sublist s).count_le 10
    simp only[List.length_dropLast]
    omega
  · omega
theorem check_of {s:Str} (h1:s.length≤1048576) (h2:s.count 10≤4095):checkT s=0:=by
  have h3:(linesV s).length≤4096:=by
    rw[linesV_len]
    split <;> omega
  simp[checkT,h1,h3]
theorem lines_flat (s:Str):(linesV s).flatten=s:=by
  rw[linesV,linesF_flat];rfl
end Go.AE
namespace Go.AE
@[simp] def S_gen_Blob:List D→Prop × D:=spec4 (α:=List Int) (β:=Int) (γ:=Int) (δ:=Int) (fun raw fr n kinds=>raw.length≤9223372036854775807∧0≤fr∧fr≤100000∧0≤n∧n≤1000∧1≤kinds∧kinds≤1000) (fun raw fr n kinds=>Rep.to (blobV raw fr n kinds))
theorem ct_gen_Blob {P:Program} {f g1 g2 g3:Nat} {G:Gam} (h:CodeOf P f 4 9 [4] (x_gen_Blob g1 g2 g3)) (hG:GamOk P G) (h1:G.find g1=some S_gen_At) (h2:G.find g2=some S_gen_Mod) (h3:G.find g3=some S_gen_Line):Has P f S_gen_Blob:=h.has4 hG fun raw fr n kinds hp=>by
  obtain⟨p1,p2,p3,p4,p5,p6,p7⟩:=hp
  obtain⟨m1,m2⟩:=modV_lt (atV raw fr) (n:=n+1) (by omega)
  have q1:(fr:Int)<9223372036854775807:=by omega
  have q2:raw.length≤9223372036854775807:=by omega
  have q3:1≤n+1∧n+1≤9223372036854775807:=by omega
  have q4:1≤kinds∧kinds≤9223372036854775807:=by omega
  have w0:IntKind.i64.wrap (n+1)=n+1:=wrap_in (by omega) (by omega)
  have w2:IntKind.i64.wrap (fr+1)=fr+1:=wrap_in (by omega) (by omega)
  have w3:IntKind.i64.wrap (fr+90)=fr+90:=wrap_in (by omega) (by omega)
  obtain⟨m,hm⟩:=Int.eq_ofNat_of_zero_le m1
  have hv:blobV raw fr n kinds=if (atV raw (fr+90)).tmod 4=0∧1<(blobS raw fr kinds m).length∧(blobS raw fr kinds m).getD ((blobS raw fr kinds m).length-2) 0≠10 then (blobS raw fr kinds m).dropLast else blobS raw fr kinds m:=by
    unfold blobV
    rw[hm]
    rfl
  have hr:=atV_range raw (fr+90)
  obtain⟨hb,_⟩:=blobS_good raw fr kinds m
  have r1:0≤fr+90∧fr+90<9223372036854775807:=by omega
  rw[hv]
  clear hv
  simp[x_gen_Blob,h1,h2,p2,q1,q2,q3,w0]
  rw[hm]
  refine vc_lp (σ:=Nat) (fun i=>i≤m) (fun i=>m-i) (fun i=>[.d (Rep.to raw),.d (.int .i64 fr),.d (.int .i64 m),.d (.int .i64 kinds),.any,.d (.str (blobS raw fr kinds i)),.d (.int .i64 i),.any,.any]) (fun _=>[]) 0 (by simp[blobS]) (by simp) (by simp) ?_
  intro i hi
  by_cases h6:i<m
  · have w1:IntKind.i64.wrap (fr+1+i)=fr+1+i:=wrap_in (by omega) (by omega)
    have w4:IntKind.i64.wrap ((i:Int)+1)=(i:Int)+1:=wrap_in (by omega) (by omega)
    have r2:0≤fr+1+(i:Int)∧fr+1+(i:Int)<9223372036854775807:=by omega
    obtain⟨hl,_⟩:=lineV_good (modV (atV raw (fr+1+i)) kinds)
    obtain⟨hbi,_⟩:=blobS_good raw fr kinds i
    simp[h1,h2,h3,w1,w2,w4,h6,q2,q4,r2]
    refine⟨by omega,by omega,?_⟩
    exact Nxt.mk (i+1) (by omega) (by simp[blobS_succ]) (by simp) (by omega)
  · have h7:i=m:=by omega
    subst h7
    generalize blobS raw fr kinds i=s at *
    simp[h1,q2,w3,r1]
    generalize atV raw (fr+90)=z at *
    refine⟨fun c1=>⟨fun c2=>?_,fun c2 c3 c4=>by omega⟩,fun a b=>absurd b a⟩
    have c2':1<s.length:=by omega
    have wA:IntKind.i64.wrap ((s.length:Int)-2)=((s.length-2:Nat):Int):=by rw[wrap_in (by omega) (by omega)];omega
    have wB:IntKind.i64.wrap ((s.length:Int)-1)=((s.length-1:Nat):Int):=by rw[wrap_in (by omega) (by omega)];omega
    rw[wA,wB]
    simp only[Int.toNat_natCast]
    refine⟨by omega,fun c3=>⟨by omega,?_⟩,fun c3 _ _ c4=>?_⟩
    · have c4:¬s[s.length-2]?.getD 0=10:=fun e=>c3 (by rw[e];rfl)
      rw[if_pos ⟨c1,c2',c4⟩,List.dropLast_eq_take]
    · exact absurd (UInt8.toNat_inj.1 (by simp;omega)) c4
def flen (l:List Str):Nat:=l.flatten.length
theorem flen_take (l:List Str) (k:Nat):flen l=flen (l.take k)+flen (l.drop k):=by
  unfold flen
  rw[← List.length_append,← List.flatten_append,List.take_append_drop]
theorem flen_succ {l:List Str} {i:Nat} (hi:i<l.length):flen (l.take (i+1))=flen (l.take i)+l[i].length:=by
  unfold flen
  rw[List.take_succ_eq_append_getElem hi,List.flatten_append,List.length_append]
  congr 1
  rw[List.flatten_cons,List.flatten_nil,List.append_nil]
def joinD (l:List Str):D:=if listV l=true then (if flen l≤1048576∧l.length≤4096 then .tup [.str (Lib.join l []),.int .i64 0] else .tup [.str [],.int .i64 1]) else .tup [.str [],.int .i64 2]
theorem join_flat (l:List Str):Lib.join l []=l.flatten:=by
  cases l with
  | nil=>rfl
  | cons x r =>
    rw[Lib.join_cons]
    simp[Lib.joinTail]
theorem listV_drop {l:List Str} {i:Nat} (h:i<l.length):listV (l.drop i)=(okL l[i] && (decide (i+1=l.length) || endedV l[i]) && listV (l.drop (i+1))):=by
  rw[List.drop_eq_getElem_cons h]
  cases h2:l.drop (i+1) with
  | nil =>
    have h3:l.length≤i+1:=List.drop_eq_nil_iff.1 h2
    have h4:i+1=l.length:=by omega
    simp[listV,h4]
  | cons y r =>
    have h4:¬i+1=l.length:=by
      intro h5
      have:l.drop (i+1)=[]:=List.drop_eq_nil_iff.2 (by omega)
      rw[this] at h2
      simp at h2
    simp[listV,h4]
@[simp] def S_text_Join:List D→Prop × D:=spec1 (α:=List Str) (fun l=>flen l≤4194304∧l.length≤4194304) (fun l=>joinD l)
theorem ct_text_Join {P:Program} {f g1 g2:Nat} {G:Gam} (h:CodeOf P f 1 13 [1,2] (x_text_Join g1 g2)) (hG:GamOk P G) (h1:G.find g1=some S_strings_IndexByte) (h2:G.find g2=some S_strings_Join):Has P f S_text_Join:=h.has1 hG fun l hp=>by
  obtain⟨p1,p2⟩:=hp
  simp[x_text_Join]
  refine vc_lp (σ:=Nat) (fun i=>i≤l.length∧listV l=listV (l.drop i)) (fun i=>l.length-i) (fun i=>[.d (Rep.to l),.any,.any,.d (.int .i64 (flen (l.take i))),.any,.any,.any,.d (Rep.to l),.d (.int .i64 l.length),.d (.int .i64 i),.any,.any,.any]) (fun _=>[]) 0 (by simp[flen]) (by simp) ⟨by simp,by simp⟩ ?_
  rintro i ⟨i1,i2⟩
  by_cases hi:i<l.length
  · have w1:IntKind.i64.wrap ((i:Int)+1)=(i:Int)+1:=wrap_in (by omega) (by omega)
    have w2:IntKind.i64.wrap ((l.length:Int)-1)=(l.length:Int)-1:=wrap_in (by omega) (by omega)
    rw[listV_drop hi] at i2
    have ef:=flen_succ hi
    have el:=flen_take l (i+1)
    rw[ef] at el
    have hx:l[i]=l[i]:=rfl
    generalize hq:l[i]=x at *
    rcases List.eq_nil_or_concat x with rfl | ⟨t,c,rfl⟩
    · have hb:listV l=false:=by rw[i2];simp[okL]
      simp[h1,hi,getD_map,hq,joinD,hb]
    · simp only[List.concat_eq_append] at *
      obtain⟨b1,b2⟩:=indexByte_last t c
      have hl0:(t++[c]).length=t.length+1:=by simp
      have w4:IntKind.i64.wrap (t.length:Int)=t.length:=wrap_in (by omega) (by omega)
      have hne:t++[c]≠[]:=by simp
      rw[hl0] at ef el
      have w3:IntKind.i64.wrap ((flen (l.take i):Int)+((t.length:Int)+1))=flen (l.take (i+1)):=by rw[wrap_in (by omega) (by omega),ef];omega
      generalize hz:Lib.indexByte (t++[c]) 10=z at *
      by_cases ht:(10:UInt8)∈t
      · obtain⟨b3,b4⟩:=b1 ht
        have hb:listV l=false:=by rw[i2];simp[okL,ht]
        simp[h1,hi,getD_map,hq,joinD,hb,hz,b3,b4,w4,w2]
      · have b3:=b2 ht
        have ok:okL (t++[c])=true:=by simp[okL,ht]
        by_cases hc:c=10
        · rw[if_pos hc] at b3
          have en:endedV (t++[c])=true:=by simp[endedV,hc]
          rw[ok,en] at i2
          simp at i2
          subst b3
          have hn:¬((t.length:Int)<0):=by omega
          simp[h1,hi,getD_map,hq,hz,w4,w2,w3,w1,hn]
          exact Nxt.mk (i+1) (by omega) (by simp) (by simp) ⟨by omega,i2⟩
        · rw[if_neg hc] at b3
          have en:endedV (t++[c])=false:=by simp[endedV,hc]
          rw[ok,en] at i2
          simp at i2
          subst b3
          by_cases hlast:i+1=l.length
          · have hl2:¬((i:Int)<(l.length:Int)-1):=by omega
            simp[h1,hi,getD_map,hq,hz,w4,w2,hl2,w3,w1]
            exact Nxt.mk (i+1) (by omega) (by simp) (by simp) ⟨by omega,by rw[i2];simp[hlast]⟩
          · have hl2:((i:Int)<(l.length:Int)-1):=by omega
            have hb:listV l=false:=by rw[i2];simp[hlast]
            simp[h1,hi,getD_map,hq,hz,w4,w2,hl2,joinD,hb]
  · have hi2:i=l.length:=by omega
    subst hi2
    have hb:listV l=true:=by rw[i2];simp[listV]
    have hj:=join_flat l
    have ht:l.take l.length=l:=List.take_length
    by_cases a:(1048576:Int)<flen l
    · have a':¬(flen l≤1048576):=by omega
      simp[joinD,hb,a,a',ht]
    · by_cases b:(4096:Int)<l.length
      · have b':¬(l.length≤4096):=by omega
        simp[joinD,hb,a,b,b',ht]
      · have a':flen l≤1048576:=by omega
        have b':l.length≤4096:=by omega
        have a2:(Lib.join l []).length≤140737488355328:=by rw[hj];unfold flen at a';omega
        have b2:l.length≤140737488355328:=by omega
        simp[h2,joinD,hb,a,b,a',b',a2,b2,ht]
def bytesD (s:Str):List D:=s.map fun c=>.int .u8 c.toNat
theorem u8s_bytes (s:Str):u8s (bytesD s)=s:=by
  unfold u8s bytesD
  rw[List.map_map]
  refine (List.map_congr_left fun c _=>?_).trans (List.map_id s)
  simp
theorem allU8_bytes (s:Str):allU8 (bytesD s):=by
  intro x hx
  unfold bytesD at hx
  obtain⟨c,_,rfl⟩:=List.mem_map.1 hx
  exact⟨_,rfl⟩
theorem bytesD_app (s t:Str):bytesD s++bytesD t=bytesD (s++t):=by simp[bytesD]
@[simp] theorem src_str (s:Store) (t:Str):src s 1 (.d (.str t))=(True,bytesD t):=by simp[src,bytesD]
@[simp] theorem eB2s_gr (s:Store) (l:Nat) (t:Str):eB2s s (.gr l 1 (bytesD t))=⟨True,[],.d (.str t)⟩:=by
  unfold eB2s
  simp[A.notStr,src,borFp,u8s_bytes,allU8_bytes]
theorem bytesD_len (s:Str):(bytesD s).length=s.length:=by simp[bytesD]
structure RdX where
  s:Str
  i:Nat
@[simp] def rdS (s:Str) (i:Nat):Store:=[.cells 0 2 [.agg [.d (.str s),.d (.int .i64 i)]]]
@[simp] def F_scan_reader_octal:RF RdX where
  new:=0
  view _ st:=⟨((st.getD 0 .dead).at 0 0).gs,((st.getD 0 .dead).at 0 1).gi.toNat⟩
  args _:=[.ref 0 0 0 0]
  st x:=rdS x.s x.i
  pre x:=x.s.length≤1048576∧x.i≤x.s.length
  res x:=.tup [.d (.int .u8 (octV x.s x.i).1.1.toNat),.d (.bool (octV x.s x.i).1.2)]
  st' x:=rdS x.s (octV x.s x.i).2
abbrev R_scan_reader_octal:RSpec:=F_scan_reader_octal.spec
structure OcX where
  k:Nat
  n:Nat
  j:Nat
theorem ct_scan_reader_octal {P:Program} {f:Nat} {G:Gam} (hc:CodeOf P f 1 7 [1,2] x_scan_reader_octal) (hG:GamOk P G):RSpec.Ok P f R_scan_reader_octal:=by
  refine RF.ok hc.call fun x hx=>hc.rcalls hG rfl ?_
  obtain⟨s,i⟩:=x
  obtain⟨p1,p2⟩:=hx
  simp only at p1 p2
  simp[x_scan_reader_octal,startA]
  refine vc_lp (σ:=OcX) (fun x=>x.k≤3∧x.j≤s.length∧x.n<8 ^ x.k∧octL s (3-x.k) x.n x.j=octL s 3 0 i) (fun x=>3-x.k)
    (fun x=>[.ref 0 0 0 0,.any,.any,.d (.int .i64 x.n),.d (.int .i64 x.k),.any,.any])
    (fun x=>rdS s x.j) ⟨0,0,i⟩ (by simp) (by simp) ⟨by simp,p2,by simp,rfl⟩ ?_
  rintro⟨k,n,j⟩ ⟨q1,q2,q3,q4⟩
  simp only at q1 q2 q3 q4
  by_cases hk:k<3
  · have w1:IntKind.i64.wrap ((k:Int)+1)=(k:Int)+1:=wrap_in (by omega) (by omega)
    rw[show 3-k=(3-(k+1))+1 by omega,octL] at q4
    have hp8:8 ^ k≤64:=by
      have:k=0∨k=1∨k=2:=by omega
      rcases this with rfl | rfl | rfl <;> decide
    cases c1:octB s j with
    | true =>
      have hj:=octB_lt c1
      have hsj:s.getD j 0=s[j]:=by simp[List.getD,hj]
      rw[if_pos c1,hsj] at q4
      have h48:48≤s[j].toNat∧s[j].toNat≤55:=by
        unfold octB at c1
        rw[List.getElem?_eq_getElem hj] at c1
        simpa using c1
      have w2:IntKind.i64.wrap ((j:Int)+1)=(j:Int)+1:=wrap_in (by omega) (by omega)
      have w3:IntKind.u8.wrap ((s[j].toNat:Int)-48)=(s[j].toNat:Int)-48:=IntWalk.u8_in _ ⟨by omega,by omega⟩
      have w4:IntKind.i64.wrap ((s[j].toNat:Int)-48)=(s[j].toNat:Int)-48:=wrap_in (by omega) (by omega)
      have w5:IntKind.i64.wrap (8 * (n:Int))=8 * (n:Int):=wrap_in (by omega) (by omega)
      have w6:IntKind.i64.wrap (8 * (n:Int)+((s[j].toNat:Int)-48))=((8 * n+(s[j].toNat-48):Nat):Int):=by rw[wrap_in (by omega) (by omega)];omega
      have hpow:8 ^ (k+1)=8 * 8 ^ k:=by rw[Nat.pow_succ];omega
      simp[show (k:Int)<3 by omega,hj,show ¬s.length≤j by omega,show ¬(s[j].toNat:Int)<48 by omega,show ¬(55:Int)<(s[j].toNat:Int) by omega,w1,w2,w3,w4,w5,w6]
      exact Nxt.mk (⟨k+1,8 * n+(s[j].toNat-48),j+1⟩:OcX) (by simp only;omega) (by simp) (by simp) ⟨by simp only;omega,by simp only;omega,by simp only[hpow];omega,q4⟩
    | false =>
      rw[if_neg (by rw[c1];simp)] at q4
      have hv:octV s i=((0,false),j):=by unfold octV;rw[← q4]
      simp only[F_scan_reader_octal,hv]
      by_cases hj:j<s.length
      · have hb:¬(48≤s[j].toNat∧s[j].toNat≤55):=by
          unfold octB at c1
          rw[List.getElem?_eq_getElem hj] at c1
          simp at c1
          omega
        by_cases c2:s[j].toNat<48
        · simp[show (k:Int)<3 by omega,hj,show ¬s.length≤j by omega,show (s[j].toNat:Int)<48 by omega]
          exact FinR.done (by simp) (by simp) rfl (by simp[resOf,resE]) (by simp) (by simp)
        · simp[show (k:Int)<3 by omega,hj,show ¬s.length≤j by omega,show ¬(s[j].toNat:Int)<48 by omega,show (55:Int)<(s[j].toNat:Int) by omega]
          exact FinR.done (by simp) (by simp) rfl (by simp[resOf,resE]) (by simp) (by simp)
      · simp[show (k:Int)<3 by omega,hj,show s.length≤j by omega]
        exact FinR.done (by simp) (by simp) rfl (by simp[resOf,resE]) (by simp) (by simp)
  · have h9:k=3:=by omega
    subst h9
    have hv:octV s i=((UInt8.ofNat n,decide (n<256)),j):=by unfold octV;rw[← q4];rfl
    have w7:IntKind.u8.wrap (n:Int)=(((UInt8.ofNat n).toNat:Nat):Int):=by rw[IntKind.wrap_u8];simp
    simp only[F_scan_reader_octal,hv]
    simp[w7]
    exact FinR.done (by simp) (by simp) rfl (by simp[resOf,resE] <;> omega) (by simp) (by simp)
@[simp] def F_scan_reader_escape:RF RdX where
  new:=0
  view _ st:=⟨((st.getD 0 .dead).at 0 0).gs,((st.getD 0 .dead).at 0 1).gi.toNat⟩
  args _:=[.ref 0 0 0 0]
  st x:=rdS x.s x.i
  pre x:=x.s.length≤1048576∧x.i≤x.s.length
  res x:=.tup [.d (.int .u8 (escpV x.s x.i).1.1.toNat),.d (.bool (escpV x.s x.i).1.2)]
  st' x:=rdS x.s (escpV x.s x.i).2
abbrev R_scan_reader_escape:RSpec:=F_scan_reader_escape.spec
theorem u8_ne {a b:UInt8} (h:a≠b):¬(a.toNat:Int)=(b.toNat:Int):=fun e=>h (UInt8.toNat_inj.1 (by omega))
theorem ct_scan_reader_escape {P:Program} {f g1:Nat} {G:Gam} (hc:CodeOf P f 1 9 [1,2] (x_scan_reader_escape g1)) (hG:GamOk P G) (h1:G.findR g1=some R_scan_reader_octal):RSpec.Ok P f R_scan_reader_escape:=by
  refine RF.ok hc.call fun x hx=>hc.rcalls hG rfl ?_
  obtain⟨s,i⟩:=x
  obtain⟨p1,p2⟩:=hx
  simp only at p1 p2
  by_cases hi:i<s.length
  · have hsi:s[i]?=some s[i]:=List.getElem?_eq_getElem hi
    have hv:escpV s i=if s[i]=34∨s[i]=92 then ((s[i],true),i+1) else if s[i]=110 then ((10,true),i+1) else if s[i]=116 then ((9,true),i+1) else octV s i:=by unfold escpV;rw[hsi]
    have w2:IntKind.i64.wrap ((i:Int)+1)=(i:Int)+1:=wrap_in (by omega) (by omega)
    simp only[F_scan_reader_escape]
    by_cases c1:s[i]=34
    · rw[if_pos (.inl c1)] at hv
      rw[hv]
      simp[x_scan_reader_escape,startA,hi,show ¬s.length≤i by omega,c1,w2]
      exact FinR.done (by simp) (by simp) rfl (by simp[resOf,resE]) (by simp) (by simp)
    · have d1:=u8_ne c1
      by_cases c2:s[i]=92
      · rw[if_pos (.inr c2)] at hv
        rw[hv]
        simp[x_scan_reader_escape,startA,hi,show ¬s.length≤i by omega,c2,w2]
        exact FinR.done (by simp) (by simp) rfl (by simp[resOf,resE]) (by simp) (by simp)
      · have d2:=u8_ne c2
        rw[if_neg (by rintro (h | h);exact c1 h;exact c2 h)] at hv
        by_cases c3:s[i]=110
        · rw[if_pos c3] at hv
          rw[hv]
          simp[x_scan_reader_escape,startA,hi,show ¬s.length≤i by omega,c3,w2]
          exact FinR.done (by simp) (by simp) rfl (by simp[resOf,resE]) (by simp) (by simp)
        · have d3:=u8_ne c3
          rw[if_neg c3] at hv
          by_cases c4:s[i]=116
          · rw[if_pos c4] at hv
            rw[hv]
            simp[x_scan_reader_escape,startA,hi,show ¬s.length≤i by omega,c4,w2]
            exact FinR.done (by simp) (by simp) rfl (by simp[resOf,resE]) (by simp) (by simp)
          · have d4:=u8_ne c4
            rw[if_neg c4] at hv
            rw[hv]
            simp at d1 d2 d3 d4
            simp[x_scan_reader_escape,startA,hi,show ¬s.length≤i by omega,d1,d2,d3,d4,eRCall,h1,p1,p2]
            exact FinR.done (by simp) (by simp) rfl (by simp[resOf,resE]) (by simp) (by simp)
  · have hv:escpV s i=((0,false),i):=by unfold escpV;rw[List.getElem?_eq_none (by omega)]
    simp only[F_scan_reader_escape,hv]
    simp[x_scan_reader_escape,startA,hi,show s.length≤i by omega]
    exact FinR.done (by simp) (by simp) rfl (by simp[resOf,resE]) (by simp) (by simp)
@[simp] def F_scan_reader_quoted:RF RdX where
  new:=0
  view _ st:=⟨((st.getD 0 .dead).at 0 0).gs,((st.getD 0 .dead).at 0 1).gi.toNat⟩
  args _:=[.ref 0 0 0 0]
  st x:=rdS x.s x.i
  pre x:=x.s.length≤1048576∧x.i≤x.s.length
  res x:=.tup [.d (.str ((quotV x.s x.i).1.getD [])),.d (.bool (quotV x.s x.i).1.isSome)]
  st' x:=rdS x.s (quotV x.s x.i).2
abbrev R_scan_reader_quoted:RSpec:=F_scan_reader_quoted.spec
structure QuX where
  b:Str
  j:Nat
theorem bytesD_one (s:Str) (c:UInt8):bytesD s++[.int .u8 c.toNat]=bytesD (s++[c]):=by simp[bytesD]
theorem ct_scan_reader_quoted {P:Program} {f g1:Nat} {G:Gam} (hc:CodeOf P f 1 10 [1,2] (x_scan_reader_quoted g1)) (hG:GamOk P G) (h1:G.findR g1=some R_scan_reader_escape):RSpec.Ok P f R_scan_reader_quoted:=by
  refine RF.ok hc.call fun x hx=>hc.rcalls hG rfl ?_
  obtain⟨s,i⟩:=x
  obtain⟨p1,p2⟩:=hx
  simp only at p1 p2
  simp[x_scan_reader_quoted,startA]
  refine vc_lp (σ:=QuX) (fun x=>x.j≤s.length∧x.b.length≤x.j∧quotL s (s.length-x.j+1) x.b x.j=quotV s i) (fun x=>s.length-x.j)
    (fun x=>[.ref 0 0 0 0,.any,.any,.gr 1 1 (bytesD x.b),.any,.any,.any,.any,.any,.any])
    (fun x=>[.cells 0 2 [.agg [.d (.str s),.d (.int .i64 x.j)]],.tip x.b.length]) ⟨[],i⟩ (by simp[bytesD]) (by simp) ⟨p2,by simp,rfl⟩ ?_
  rintro⟨b,j⟩ ⟨q1,q2,q3⟩
  simp only at q1 q2 q3
  have hbl:=bytesD_len b
  by_cases hj:j<s.length
  · have hsj:s[j]?=some s[j]:=List.getElem?_eq_getElem hj
    have w2:IntKind.i64.wrap ((j:Int)+1)=(j:Int)+1:=wrap_in (by omega) (by omega)
    rw[quotL,hsj] at q3
    simp only at q3
    by_cases c1:s[j]=34
    · rw[if_pos c1] at q3
      simp only[F_scan_reader_quoted,← q3]
      simp[hj,c1,w2]
      exact FinR.done (by simp) (by simp) rfl (by simp[resOf,resE]) (by simp) (by simp)
    · have d1:=u8_ne c1
      rw[if_neg c1] at q3
      simp at d1
      by_cases c2:s[j]=92
      · rw[if_pos c2] at q3
        have hr:=escpV_rng (s:=s) (i:=j+1) (by omega)
        generalize hx:escpV s (j+1)=x at *
        obtain⟨⟨c,ok⟩,j2⟩:=x
        simp only at q3 hr
        have hone:=bytesD_one b c
        cases ok with
        | true =>
          rw[if_pos rfl,quotL_fuel _ (s.length-j2+1) _ _ hr.2 (by omega) (by omega)] at q3
          generalize bytesD b=bd at *
          simp[hj,c2,w2,eRCall,h1,p1,show j+1≤s.length by omega,hx,hbl,hone]
          exact⟨by unfold room;omega,Nxt.mk (⟨b++[c],j2⟩:QuX) (by simp only;omega) (by simp) (by simp[hbl]) ⟨hr.2,by simp;omega,q3⟩⟩
        | false =>
          rw[if_neg (by simp)] at q3
          simp only[F_scan_reader_quoted,← q3]
          simp[hj,c2,w2,eRCall,h1,p1,show j+1≤s.length by omega,hx]
          exact FinR.done (by simp) (by simp) rfl (by simp[resOf,resE]) (by simp) (by simp)
      · have d2:=u8_ne c2
        simp at d2
        rw[if_neg c2,quotL_fuel _ (s.length-(j+1)+1) _ _ (by omega) (by omega) (by omega)] at q3
        have hone:=bytesD_one b s[j]
        generalize bytesD b=bd at *
        simp[hj,d1,d2,w2,hbl,hone]
        exact⟨by unfold room;omega,Nxt.mk (⟨b++[s[j]],j+1⟩:QuX) (by simp only;omega) (by simp) (by simp[hbl]) ⟨by simp only;omega,by simp;omega,q3⟩⟩
  · have h9:j=s.length:=by omega
    subst h9
    rw[quotL,List.getElem?_eq_none (Nat.le_refl _)] at q3
    simp only at q3
    simp only[F_scan_reader_quoted,← q3]
    simp
    exact FinR.done (by simp) (by simp) rfl (by simp[resOf,resE]) (by simp) (by simp)
theorem eB2s_sl (s:Store) (t:Str):eB2s s (.d (.sl 1 (bytesD t)))=⟨True,[],.d (.str t)⟩:=by
  have h:=eB2s_gr s 0 t
  unfold eB2s at h ⊢
  exact h
theorem esc_digits:∀k:_root_.Fin 256,IntKind.u8.wrap (48+((k.val:Nat):Int).fdiv (2 ^ min 6 IntKind.u8.bits))=((UInt8.ofNat (48+k.val / 64):UInt8).toNat:Int) ∧
    IntKind.u8.wrap (48+IntKind.u8.wrap (((((k.val:Nat):Int).fdiv (2 ^ min 3 IntKind.u8.bits) % 2 ^ IntKind.u8.bits).toNat &&& 7 % 2 ^ IntKind.u8.bits:Nat):Int))=((UInt8.ofNat (48+k.val / 8 % 8):UInt8).toNat:Int) ∧
    IntKind.u8.wrap (48+IntKind.u8.wrap ((k.val % 2 ^ IntKind.u8.bits &&& 7 % 2 ^ IntKind.u8.bits:Nat):Int))=((UInt8.ofNat (48+k.val % 8):UInt8).toNat:Int):=by decide +kernel
@[simp] def S_scan_escaped:List D→Prop × D:=spec1 (α:=U8T) (fun c=>0≤c.n∧c.n≤255) (fun c=>.str (escV (UInt8.ofNat c.n.toNat)))
theorem ct_scan_escaped {P:Program} {f:Nat} {G:Gam} (h:CodeOf P f 1 6 [1] x_scan_escaped) (hG:GamOk P G):Has P f S_scan_escaped:=h.has1 hG fun c hp=>by
  obtain⟨n⟩:=c
  obtain⟨p1,p2⟩:=hp
  simp only at p1 p2
  obtain⟨k,rfl⟩:=Int.eq_ofNat_of_zero_le p1
  have hk:k<256:=by omega
  obtain⟨d1,d2,d3⟩:=esc_digits ⟨k,hk⟩
  have d4:=fun s=>eB2s_sl s [UInt8.ofNat (48+k / 64),UInt8.ofNat (48+k / 8 % 8),UInt8.ofNat (48+k % 8)]
  simp only[bytesD,List.map_cons,List.map_nil] at d4
  have ne:∀(m:Nat),m<256→(UInt8.ofNat k=UInt8.ofNat m↔k=m):=fun m hm=>by
    constructor
    · intro h
      have:=congrArg UInt8.toNat h
      rw[UInt8.toNat_ofNat',UInt8.toNat_ofNat'] at this
      omega
    · rintro rfl;rfl
  have ht:(UInt8.ofNat k).toNat=k:=by rw[UInt8.toNat_ofNat'];omega
  simp only[Int.toNat_natCast]
  have e:escV (UInt8.ofNat k)=if k=34∨k=92 then [92,UInt8.ofNat k] else if k=10 then [92,110] else if k=9 then [92,116] else
    if k<32∨126<k then [92,UInt8.ofNat (48+k / 64),UInt8.ofNat (48+k / 8 % 8),UInt8.ofNat (48+k % 8)] else [UInt8.ofNat k]:=by
    unfold escV
    rw[ht]
    have:=ne 34 (by omega)
    have:=ne 92 (by omega)
    have:=ne 10 (by omega)
    have:=ne 9 (by omega)
    simp only[show (34:UInt8)=UInt8.ofNat 34 from rfl,show (92:UInt8)=UInt8.ofNat 92 from rfl,show (10:UInt8)=UInt8.ofNat 10 from rfl,show (9:UInt8)=UInt8.ofNat 9 from rfl,ne _ (show 34<256 by omega),ne _ (show 92<256 by omega),ne _ (show 10<256 by omega),ne _ (show 9<256 by omega)]
  simp only at d1 d2 d3
  generalize UInt8.ofNat (48+k / 64)=a1 at *
  generalize UInt8.ofNat (48+k / 8 % 8)=a2 at *
  generalize UInt8.ofNat (48+k % 8)=a3 at *
  by_cases c1:k=34
  · subst c1
    rw[if_pos (.inl rfl)] at e
    rw[e]
    simp[x_scan_escaped,eI2s]
  · by_cases c2:k=92
    · subst c2
      rw[if_pos (.inr rfl)] at e
      rw[e]
      simp[x_scan_escaped,eI2s]
    · rw[if_neg (by omega)] at e
      by_cases c3:k=10
      · subst c3
        rw[if_pos rfl] at e
        rw[e]
        simp[x_scan_escaped,eI2s]
      · rw[if_neg c3] at e
        by_cases c4:k=9
        · subst c4
          rw[if_pos rfl] at e
          rw[e]
          simp[x_scan_escaped,eI2s]
        · rw[if_neg c4] at e
          by_cases c5:k<32∨126<k
          · rw[if_pos c5] at e
            rw[e]
            by_cases c6:k<32
            · simp[x_scan_escaped,eI2s,show ¬(k:Int)=34 by omega,show ¬(k:Int)=92 by omega,show ¬(k:Int)=10 by omega,show ¬(k:Int)=9 by omega,show (k:Int)<32 by omega,d1,d2,d3,d4]
            · simp[x_scan_escaped,eI2s,show ¬(k:Int)=34 by omega,show ¬(k:Int)=92 by omega,show ¬(k:Int)=10 by omega,show ¬(k:Int)=9 by omega,show ¬(k:Int)<32 by omega,show 126<(k:Int) by omega,d1,d2,d3,d4]
          · rw[if_neg c5] at e
            rw[e]
            simp[x_scan_escaped,eI2s,show ¬(k:Int)=34 by omega,show ¬(k:Int)=92 by omega,show ¬(k:Int)=10 by omega,show ¬(k:Int)=9 by omega,show ¬(k:Int)<32 by omega,show ¬126<(k:Int) by omega]
            omega
theorem esc_len (c:UInt8):(escV c).length≤4:=by
  unfold escV
  split
  · simp
  · split
    · simp
    · split
      · simp
      · split <;> simp
theorem esc_lens:∀s:Str,(s.flatMap escV).length≤4 * s.length
  | []=>by simp
  | c::s=>by
    have:=esc_lens s
    have:=esc_len c
    simp only[List.flatMap_cons,List.length_append,List.length_cons]
    omega
theorem quote_len (s:Str):(quoteV s).length≤4 * s.length+2:=by
  unfold quoteV
  split
  · omega
  · have:=esc_lens s
    simp only[List.length_append,List.length_singleton]
    omega
def qbS (s:Str) (i:Nat):Str:=34::(s.take i).flatMap escV
theorem qbS_succ {s:Str} {i:Nat} (h:i<s.length):qbS s i++escV s[i]=qbS s (i+1):=by
  unfold qbS
  rw[List.take_succ_eq_append_getElem h,List.flatMap_append]
  simp only[List.flatMap_cons,List.flatMap_nil,List.append_nil,List.cons_append]
theorem qbS_len (s:Str) (i:Nat):(qbS s i).length≤4 * s.length+1:=by
  unfold qbS
  have:=esc_lens (s.take i)
  simp only[List.length_take,List.length_cons] at this ⊢
  omega
def barS (s:Str) (i:Nat):Bool:=decide (s≠[]) && (s.take i).all plainB
theorem barS_succ {s:Str} {i:Nat} (h:i<s.length):barS s (i+1)=(barS s i && plainB s[i]):=by
  unfold barS
  rw[List.take_succ_eq_append_getElem h,List.all_append,Bool.and_assoc]
  simp only[List.all_cons,List.all_nil,Bool.and_true]
@[simp] def S_scan_Quote:List D→Prop × D:=spec1 (α:=Str) (fun s=>s.length≤4194304) (fun s=>.str (quoteV s))
theorem ct_scan_Quote {P:Program} {f g1 g2 g3 g4 g5:Nat} {G:Gam} (h:CodeOf P f 1 13 [1] (x_scan_Quote g1 g2 g3 g4 g5)) (hG:GamOk P G) (h1:G.find g1=some S_scan_plain) (h2:G.find g2=some S_scan_escaped) (h3:G.findR g3=some R___strings_Builder__WriteByte) (h4:G.findR g4=some R___strings_Builder__WriteString) (h5:G.findR g5=some R___strings_Builder__String):Has P f S_scan_Quote:=h.has1 hG fun s hp=>by
  have u8:∀c:UInt8,UInt8.ofNat c.toNat=c:=fun c=>by simp
  have u8b:∀c:UInt8,(c.toNat:Int)≤255:=fun c=>by have:=c.toNat_lt;omega
  simp[x_scan_Quote]
  refine vc_lp (σ:=Nat) (fun i=>i≤s.length) (fun i=>s.length-i) (fun i=>[.d (.str s),.any,.d (.bool (barS s i)),.any,.any,.any,.d (.int .i64 s.length),.d (.int .i64 i),.any,.any,.any,.any,.any]) (fun _=>[]) 0 (by simp[barS]) (by simp) (by simp) ?_
  intro i i1
  by_cases hi:i<s.length
  · have w1:IntKind.i64.wrap ((i:Int)+1)=(i:Int)+1:=wrap_in (by omega) (by omega)
    have hb:=barS_succ hi
    cases c:barS s i with
    | true =>
      rw[c,Bool.true_and] at hb
      simp[hi,h1,u8b,w1]
      exact Nxt.mk (i+1) (by omega) (by simp[hb]) (by simp) (by omega)
    | false =>
      rw[c,Bool.false_and] at hb
      simp[hi,w1]
      exact Nxt.mk (i+1) (by omega) (by simp[hb]) (by simp) (by omega)
  · have hbare:barS s i=bareB s:=by
      unfold barS bareB
      rw[List.take_of_length_le (by omega)]
    rw[hbare]
    cases c:bareB s with
    | true =>
      have e:quoteV s=s:=by unfold quoteV;rw[if_pos c]
      rw[e]
      simp[hi]
    | false =>
      have e:quoteV s=qbS s s.length++[34]:=by unfold quoteV qbS;rw[if_neg (by rw[c];simp),List.take_of_length_le (Nat.le_refl _)];rfl
      rw[e]
      simp[hi,eRCall,h3]
      refine vc_lp (σ:=Nat) (fun i=>i≤s.length) (fun i=>s.length-i) (fun i=>[.d (.str s),.any,.any,.any,.ref 0 0 0 0,.any,.any,.any,.any,.any,.d (.int .i64 s.length),.d (.int .i64 i),.any]) (fun i=>buS (qbS s i)) 0 (by simp) (by simp[qbS]) (by simp) ?_
      intro i i1
      have hl:=qbS_len s i
      by_cases hi:i<s.length
      · have w1:IntKind.i64.wrap ((i:Int)+1)=(i:Int)+1:=wrap_in (by omega) (by omega)
        have he:=esc_len s[i]
        have hq:=qbS_succ hi
        simp[hi,h2,u8b,w1,eRCall,h4,hq]
        exact⟨by omega,Nxt.mk (i+1) (by omega) (by simp) (by simp[← hq]) (by omega)⟩
      · have:i=s.length:=by omega
        subst this
        simp[eRCall,h3,h5]
        omega
theorem quotL_rng {s:Str}:∀(f:Nat) (b:Str) (i:Nat),i≤s.length→i≤(quotL s f b i).2∧(quotL s f b i).2≤s.length∧∀w,(quotL s f b i).1=some w→w.length+i≤b.length+(quotL s f b i).2
  | 0,b,i,h=>⟨Nat.le_refl _,h,fun w hw=>by simp[quotL] at hw⟩
  | f+1,b,i,h=>by
    unfold quotL
    cases hc:s[i]? with
    | none=>exact⟨Nat.le_refl _,h,fun w hw=>by simp at hw⟩
    | some c =>
      have hil:=(List.getElem?_eq_some_iff.1 hc).1
      have he:=escpV_rng (s:=s) (i:=i+1) (by omega)
      simp only
      split
      · refine⟨by simp,by simp only;omega,fun w hw=>?_⟩
        simp at hw
        subst hw
        simp only
        omega
      · split
        · split
          · have:=quotL_rng f (b++[(escpV s (i+1)).1.1]) _ he.2
            refine⟨by omega,this.2.1,fun w hw=>?_⟩
            have:=this.2.2 w hw
            simp at this
            omega
          · exact⟨by simp only;omega,he.2,fun w hw=>by simp at hw⟩
        · have:=quotL_rng (s:=s) f (b++[c]) (i+1) (by omega)
          refine⟨by omega,this.2.1,fun w hw=>?_⟩
          have:=this.2.2 w hw
          simp at this
          omega
theorem quotV_rng {s:Str} {i:Nat} (h:i≤s.length):i≤(quotV s i).2∧(quotV s i).2≤s.length∧∀w,(quotV s i).1=some w→w.length≤s.length:=by
  have:=quotL_rng (s:=s) (s.length-i+1) [] i h
  refine⟨this.1,this.2.1,fun w hw=>?_⟩
  have h1:=this.2.2 w hw
  have h2:=this.2.1
  simp at h1
  omega
def plnE (s:Str):Nat→Nat→Nat
  | 0,i=>i
  | f+1,i=>if i<s.length∧plainB (s.getD i 0)=true then plnE s f (i+1) else i
theorem plnE_rng {s:Str}:∀(f i:Nat),i≤s.length→i≤plnE s f i∧plnE s f i≤s.length
  | 0,i,h=>⟨Nat.le_refl _,h⟩
  | f+1,i,h=>by
    unfold plnE
    split
    · rename_i h2
      have:=plnE_rng (s:=s) f (i+1) (by omega)
      omega
    · exact⟨Nat.le_refl _,h⟩
def cutS (s:Str) (i j:Nat):Str:=(s.drop i).take (j-i)
def wordV (s:Str) (i:Nat):(Str × Bool) × Nat :=
  if s[i]?=some 34 then
    (match (quotV s (i+1)).1 with
    | none=>(([],false),(quotV s (i+1)).2)
    | some w=>((w,decide (quoteV w=cutS s i (quotV s (i+1)).2)),(quotV s (i+1)).2))
  else ((cutS s i (plnE s (s.length-i) i),decide (quoteV (cutS s i (plnE s (s.length-i) i))=cutS s i (plnE s (s.length-i) i))),plnE s (s.length-i) i)
theorem wordV_rng {s:Str} {i:Nat} (h:i≤s.length):i≤(wordV s i).2∧(wordV s i).2≤s.length∧(wordV s i).1.1.length≤s.length:=by
  unfold wordV
  split
  · rename_i h2
    have hi:=(List.getElem?_eq_some_iff.1 h2).1
    have:=quotV_rng (s:=s) (i:=i+1) (by omega)
    split
    · exact⟨by simp only;omega,this.2.1,by simp⟩
    · rename_i w hw
      exact⟨by simp only;omega,this.2.1,this.2.2 w hw⟩
  · have:=plnE_rng (s:=s) (s.length-i) i h
    exact⟨this.1,this.2,by simp[cutS];omega⟩
@[simp] def F_scan_reader_word:RF RdX where
  new:=0
  view _ st:=⟨((st.getD 0 .dead).at 0 0).gs,((st.getD 0 .dead).at 0 1).gi.toNat⟩
  args _:=[.ref 0 0 0 0]
  st x:=rdS x.s x.i
  pre x:=x.s.length≤1048576∧x.i≤x.s.length
  res x:=.tup [.d (.str (wordV x.s x.i).1.1),.d (.bool (wordV x.s x.i).1.2)]
  st' x:=rdS x.s (wordV x.s x.i).2
abbrev R_scan_reader_word:RSpec:=F_scan_reader_word.spec
theorem ct_scan_reader_word {P:Program} {f g1 g2 g3:Nat} {G:Gam} (hc:CodeOf P f 1 9 [1,2] (x_scan_reader_word g1 g2 g3)) (hG:GamOk P G) (h1:G.find g1=some S_scan_plain) (h2:G.find g2=some S_scan_Quote) (h3:G.findR g3=some R_scan_reader_quoted):RSpec.Ok P f R_scan_reader_word:=by
  refine RF.ok hc.call fun x hx=>hc.rcalls hG rfl ?_
  obtain⟨s,i⟩:=x
  obtain⟨p1,p2⟩:=hx
  simp only at p1 p2
  have u8b:∀c:UInt8,(c.toNat:Int)≤255:=fun c=>by have:=c.toNat_lt;omega
  have plain:s[i]?≠some 34→∀(j:Nat) (R:Prop),True:=fun _ _ _=>trivial
  have tail:∀(hne:s[i]?≠some 34),(F_scan_reader_word.res ⟨s,i⟩,F_scan_reader_word.st' ⟨s,i⟩)=(.tup [.d (.str (cutS s i (plnE s (s.length-i) i))),.d (.bool (decide (quoteV (cutS s i (plnE s (s.length-i) i))=cutS s i (plnE s (s.length-i) i))))],rdS s (plnE s (s.length-i) i)):=fun hne=>by
    simp only[F_scan_reader_word,wordV,if_neg hne]
  by_cases hi:i<s.length
  · have hsi:s[i]?=some s[i]:=List.getElem?_eq_getElem hi
    have w1:IntKind.i64.wrap ((i:Int)+1)=(i:Int)+1:=wrap_in (by omega) (by omega)
    by_cases c1:s[i]=34
    · have hr:=quotV_rng (s:=s) (i:=i+1) (by omega)
      have hw:wordV s i=match (quotV s (i+1)).1 with
        | none=>(([],false),(quotV s (i+1)).2)
        | some w=>((w,decide (quoteV w=cutS s i (quotV s (i+1)).2)),(quotV s (i+1)).2):=by
        unfold wordV
        rw[if_pos (by rw[hsi,c1])]
      simp only[F_scan_reader_word]
      generalize hq:quotV s (i+1)=q at *
      obtain⟨q,j⟩:=q
      simp only at hr hw
      cases q with
      | none =>
        simp only at hw
        rw[hw]
        simp[x_scan_reader_word,startA,hi,c1,w1,eRCall,h3,p1,show i+1≤s.length by omega,hq]
        exact FinR.done (by simp) (by simp) rfl (by simp[resOf,resE]) (by simp) (by simp)
      | some w =>
        simp only at hw
        rw[hw]
        have hl:=hr.2.2 w rfl
        have hcut:List.take (j-i) (s.drop i)=cutS s i j:=rfl
        simp[x_scan_reader_word,startA,hi,c1,w1,eRCall,h3,h2,p1,show i+1≤s.length by omega,hq,show w.length≤4194304 by omega,show i≤j by omega,hr.2.1,hcut]
        exact FinR.done (by simp) (by simp) rfl (by simp[resOf,resE]) (by simp) (by simp)
    · have hne:s[i]?≠some 34:=by rw[hsi];simpa using c1
      have d1:=u8_ne c1
      simp at d1
      rw[show F_scan_reader_word.res ⟨s,i⟩=_ from congrArg Prod.fst (tail hne),show F_scan_reader_word.st' ⟨s,i⟩=_ from congrArg Prod.snd (tail hne)]
      clear tail
      simp[x_scan_reader_word,startA,hi,d1]
      refine vc_lp (σ:=Nat) (fun j=>i≤j∧j≤s.length∧plnE s (s.length-j) j=plnE s (s.length-i) i) (fun j=>s.length-j) (fun j=>[.ref 0 0 0 0,.any,.any,.d (.int .i64 i),.any,.any,.any,.any,.any]) (fun j=>rdS s j) i (by simp) (by simp) ⟨Nat.le_refl _,p2,rfl⟩ ?_
      rintro j ⟨k1,k2,k3⟩
      by_cases hj:j<s.length
      · have w2:IntKind.i64.wrap ((j:Int)+1)=(j:Int)+1:=wrap_in (by omega) (by omega)
        have hsj:s.getD j 0=s[j]:=by simp[List.getD,hj]
        rw[show s.length-j=(s.length-(j+1))+1 by omega,plnE,hsj] at k3
        cases c:plainB s[j] with
        | true =>
          rw[if_pos ⟨hj,c⟩] at k3
          simp[hj,h1,u8b,c,w2]
          exact Nxt.mk (j+1) (by omega) (by simp) (by simp) ⟨by omega,by omega,k3⟩
        | false =>
          rw[if_neg (by rw[c];simp)] at k3
          rw[← k3]
          have hcut:List.take (j-i) (s.drop i)=cutS s i j:=rfl
          have hlen:(cutS s i j).length≤4194304:=by simp[cutS];omega
          simp[hj,h1,u8b,c,k1,k2,hcut,h2,hlen]
          exact FinR.done (by simp) (by simp) rfl (by simp[resOf,resE]) (by simp) (by simp)
      · obtain rfl:j=s.length:=by omega
        rw[Nat.sub_self,plnE] at k3
        rw[← k3]
        have hcut:List.take (s.length-i) (s.drop i)=cutS s i s.length:=rfl
        have hlen:(cutS s i s.length).length≤4194304:=by simp[cutS];omega
        simp[k1,hcut,h2,hlen]
        exact FinR.done (by simp) (by simp) rfl (by simp[resOf,resE]) (by simp) (by simp)
  · have hne:s[i]?≠some 34:=by rw[List.getElem?_eq_none (by omega)];simp
    rw[show F_scan_reader_word.res ⟨s,i⟩=_ from congrArg Prod.fst (tail hne),show F_scan_reader_word.st' ⟨s,i⟩=_ from congrArg Prod.snd (tail hne)]
    clear tail
    simp[x_scan_reader_word,startA,hi]
    refine vc_lp (σ:=Nat) (fun j=>i≤j∧j≤s.length∧plnE s (s.length-j) j=plnE s (s.length-i) i) (fun j=>s.length-j) (fun j=>[.ref 0 0 0 0,.any,.any,.d (.int .i64 i),.any,.any,.any,.any,.any]) (fun j=>rdS s j) i (by simp) (by simp) ⟨Nat.le_refl _,p2,rfl⟩ ?_
    rintro j ⟨k1,k2,k3⟩
    by_cases hj:j<s.length
    · have w2:IntKind.i64.wrap ((j:Int)+1)=(j:Int)+1:=wrap_in (by omega) (by omega)
      have hsj:s.getD j 0=s[j]:=by simp[List.getD,hj]
      rw[show s.length-j=(s.length-(j+1))+1 by omega,plnE,hsj] at k3
      cases c:plainB s[j] with
      | true =>
        rw[if_pos ⟨hj,c⟩] at k3
        simp[hj,h1,u8b,c,w2]
        exact Nxt.mk (j+1) (by omega) (by simp) (by simp) ⟨by omega,by omega,k3⟩
      | false =>
        rw[if_neg (by rw[c];simp)] at k3
        rw[← k3]
        have hcut:List.take (j-i) (s.drop i)=cutS s i j:=rfl
        have hlen:(cutS s i j).length≤4194304:=by simp[cutS];omega
        simp[hj,h1,u8b,c,k1,k2,hcut,h2,hlen]
        exact FinR.done (by simp) (by simp) rfl (by simp[resOf,resE]) (by simp) (by simp)
    · obtain rfl:j=s.length:=by omega
      rw[Nat.sub_self,plnE] at k3
      rw[← k3]
      have hcut:List.take (s.length-i) (s.drop i)=cutS s i s.length:=rfl
      have hlen:(cutS s i s.length).length≤4194304:=by simp[cutS];omega
      simp[k1,hcut,h2,hlen]
      exact FinR.done (by simp) (by simp) rfl (by simp[resOf,resE]) (by simp) (by simp)
def unqV (s:Str) (a:Int):Option (Str × Nat):=if a<0∨s.length<a then none else if (wordV s a.toNat).1.2=true then some ((wordV s a.toNat).1.1,(wordV s a.toNat).2) else none
def optW (o:Option (Str × Nat)):D:=match o with
  | some x=>.tup [.str x.1,.int .i64 x.2,.bool true]
  | none=>.tup [.str [],.int .i64 0,.bool false]
@[simp] def S_scan_Unquote:List D→Prop × D:=spec2 (α:=Str) (β:=Int) (fun s _=>s.length≤1048576) (fun s a=>optW (unqV s a))
theorem ct_scan_Unquote {P:Program} {f g1:Nat} {G:Gam} (h:CodeOf P f 2 10 [2,3,4] (x_scan_Unquote g1)) (hG:GamOk P G) (h1:G.findR g1=some R_scan_reader_word):Has P f S_scan_Unquote:=h.has2 hG fun s a hp=>by
  by_cases c1:a<0
  · have e:unqV s a=none:=by unfold unqV;rw[if_pos (.inl c1)]
    rw[e]
    simp[x_scan_Unquote,c1,optW]
  · by_cases c2:s.length<a
    · have e:unqV s a=none:=by unfold unqV;rw[if_pos (.inr c2)]
      rw[e]
      simp[x_scan_Unquote,c1,c2,optW]
    · obtain⟨k,rfl⟩:=Int.eq_ofNat_of_zero_le (show 0≤a by omega)
      have e:unqV s k=if (wordV s k).1.2=true then some ((wordV s k).1.1,(wordV s k).2) else none:=by unfold unqV;rw[if_neg (by omega),Int.toNat_natCast]
      rw[e]
      cases c3:(wordV s k).1.2 with
      | true=>simp[x_scan_Unquote,c1,c2,eRCall,h1,hp,show k≤s.length by omega,c3,optW]
      | false=>simp[x_scan_Unquote,c1,c2,eRCall,h1,hp,show k≤s.length by omega,c3,optW]
abbrev R_slices_Clip_Span_Span:RSpec:=⟨fun _ _ nw=>[nw],fun args s0=>match args,s0 with
  | [.d (.sl e xs)],[.res]=>(e=2,[.tip xs.length],.gr 0 2 xs)
  | _,_=>(False,[],.any)⟩
theorem ct_slices_Clip_Span_Span {P:Program} {f:Nat} (hc:CodeOf P f 1 2 [1] x_slices_Clip_Span_Span):RSpec.Ok P f R_slices_Clip_Span_Span:=by
  refine⟨hc.call,fun _ _ _ _ _=>rfl,?_⟩
  intro args s0 hp
  simp only at hp ⊢
  split at hp
  · rename_i e xs
    simp only at hp
    subst hp
    refine hc.rcalls (GamOk.nil _) rfl ?_
    simp[x_slices_Clip_Span_Span,startA]
    exact⟨by simp[resPre],[1],rfl,⟨by decide,by simp,rfl⟩,fun k hk=>by match k,hk with | 0,_=>exact .inr rfl,rfl,rfl,rfl⟩
  · exact hp.elim
theorem eR_clip {G:Gam} {f:Nat} (hf:G.findR f=some R_slices_Clip_Span_Span) {s:Store} {nw:Nat} {xs:List D} (h1:s.getD nw .dead=.res) (h2:nw<s.length) :
    eRCall G s nw f [.d (.sl 2 xs)]=⟨True,[(nw,.tip xs.length)],.gr nw 2 xs⟩:=by
  unfold eRCall
  rw[hf]
  simp only[List.map_cons,List.map_nil,h1]
  simp[h2]
def dist:List Int→List Int→Nat
  | [],b=>b.length
  | x::a,[]=>a.length+1
  | x::a,y::b=>if x=y then dist a b else 1+min (dist a (y::b)) (dist (x::a) b)
termination_by a b=>a.length+b.length
theorem dist_nil (b:List Int):dist [] b=b.length:=by rw[dist]
theorem dist_nil' (a:List Int):dist a []=a.length:=by cases a <;> rw[dist] <;> rfl
theorem dist_eq (x:Int) (a b:List Int):dist (x::a) (x::b)=dist a b:=by rw[dist];simp
theorem dist_ne {x y:Int} (h:x≠y) (a b:List Int):dist (x::a) (y::b)=1+min (dist a (y::b)) (dist (x::a) b):=by rw[dist];simp[h]
theorem dist_comm:∀a b:List Int,dist a b=dist b a
  | [],b=>by rw[dist_nil,dist_nil']
  | x::a,[]=>by rw[dist_nil,dist_nil']
  | x::a,y::b=>by
    by_cases h:x=y
    · subst h
      rw[dist_eq,dist_eq,dist_comm a b]
    · rw[dist_ne h,dist_ne (Ne.symm h),dist_comm a (y::b),dist_comm (x::a) b,Nat.min_comm]
termination_by a b=>a.length+b.length
theorem dist_steps:∀(n:Nat) (a b:List Int),a.length+b.length≤n→(∀x,dist (x::a) b≤dist a b+1)∧(∀y,dist a b≤dist a (y::b)+1):=by
  intro n
  induction n with
  | zero =>
    intro a b h
    have ha:a=[]:=List.eq_nil_of_length_eq_zero (by omega)
    have hb:b=[]:=List.eq_nil_of_length_eq_zero (by omega)
    subst ha hb
    exact⟨fun x=>by rw[dist_nil',dist_nil];simp,fun y=>by rw[dist_nil];simp⟩
  | succ n ih =>
    intro a b h
    have L:∀y,dist a b≤dist a (y::b)+1:=by
      intro y
      cases a with
      | nil=>rw[dist_nil,dist_nil];simp;omega
      | cons x a =>
        simp only[List.length_cons] at h
        have u:=(ih a b (by omega)).1 x
        have l:=(ih a b (by omega)).2 y
        by_cases hxy:x=y
        · subst hxy
          rw[dist_eq]
          exact u
        · rw[dist_ne hxy]
          omega
    refine⟨fun x=>?_,L⟩
    cases b with
    | nil=>rw[dist_nil',dist_nil'];simp
    | cons y b =>
      simp only[List.length_cons] at h
      by_cases hxy:x=y
      · subst hxy
        rw[dist_eq]
        exact (ih a b (by omega)).2 x
      · rw[dist_ne hxy]
        omega
theorem dist_del (x:Int) (a b:List Int):dist (x::a) b≤dist a b+1:=(dist_steps _ a b (Nat.le_refl _)).1 x
theorem dist_ins (y:Int) (a b:List Int):dist a (y::b)≤dist a b+1:=by rw[dist_comm a,dist_comm a];exact dist_del y b a
inductive Ed:List Int→List Int→Nat→Prop where
  | nil:Ed [] [] 0
  | del (x:Int) {a b:List Int} {n:Nat} (h:Ed a b n):Ed (x::a) b (n+1)
  | ins (y:Int) {a b:List Int} {n:Nat} (h:Ed a b n):Ed a (y::b) (n+1)
  | keep (x:Int) {a b:List Int} {n:Nat} (h:Ed a b n):Ed (x::a) (x::b) n
theorem Ed.le {a b:List Int} {n:Nat} (h:Ed a b n):dist a b≤n:=by
  induction h with
  | nil=>rw[dist_nil];simp
  | del x h ih=>exact Nat.le_trans (dist_del _ _ _) (by omega)
  | ins y h ih=>exact Nat.le_trans (dist_ins _ _ _) (by omega)
  | keep x h ih=>rw[dist_eq];exact ih
theorem ed_dist:∀a b:List Int,Ed a b (dist a b)
  | [],[]=>by rw[dist_nil];exact .nil
  | [],y::b=>by
    have:=ed_dist [] b
    rw[dist_nil] at this ⊢
    exact .ins y this
  | x::a,[]=>by
    have:=ed_dist a []
    rw[dist_nil'] at this ⊢
    exact .del x this
  | x::a,y::b=>by
    by_cases h:x=y
    · subst h
      rw[dist_eq]
      exact .keep x (ed_dist a b)
    · rw[dist_ne h]
      rcases Nat.le_total (dist a (y::b)) (dist (x::a) b) with h1 | h1
      · rw[Nat.min_eq_left h1,Nat.add_comm]
        exact .del x (ed_dist a (y::b))
      · rw[Nat.min_eq_right h1,Nat.add_comm]
        exact .ins y (ed_dist (x::a) b)
termination_by a b=>a.length+b.length
theorem Ed.trans {a b:List Int} {n:Nat} (h:Ed a b n):∀{c:List Int} {m:Nat},Ed b c m→∃k,k≤n+m∧Ed a c k:=by
  induction h with
  | nil=>intro c m k;exact⟨m,by omega,k⟩
  | del x h ih =>
    intro c m k
    obtain⟨j,h1,h2⟩:=ih k
    exact⟨j+1,by omega,.del x h2⟩
  | @ins y a b n h ih =>
    intro c m k
    generalize hb:y::b=b' at k
    induction k with
    | nil=>simp at hb
    | del z k _ =>
      simp at hb
      obtain⟨rfl,rfl⟩:=hb
      obtain⟨j,h1,h2⟩:=ih k
      exact⟨j,by omega,h2⟩
    | ins z k ih2 =>
      obtain⟨j,h1,h2⟩:=ih2 hb
      exact⟨j+1,by omega,.ins z h2⟩
    | keep z k _ =>
      simp at hb
      obtain⟨rfl,rfl⟩:=hb
      obtain⟨j,h1,h2⟩:=ih k
      exact⟨j+1,by omega,.ins y h2⟩
  | @keep x a b n h ih =>
    intro c m k
    generalize hb:x::b=b' at k
    induction k with
    | nil=>simp at hb
    | del z k _ =>
      simp at hb
      obtain⟨rfl,rfl⟩:=hb
      obtain⟨j,h1,h2⟩:=ih k
      exact⟨j+1,by omega,.del x h2⟩
    | ins z k ih2 =>
      obtain⟨j,h1,h2⟩:=ih2 hb
      exact⟨j+1,by omega,.ins z h2⟩
    | keep z k _ =>
      simp at hb
      obtain⟨rfl,rfl⟩:=hb
      obtain⟨j,h1,h2⟩:=ih k
      exact⟨j,by omega,.keep x h2⟩
theorem Ed.len {a b:List Int} {n:Nat} (h:Ed a b n):a.length≤b.length+n∧b.length≤a.length+n∧n≤a.length+b.length∧(a.length+b.length-n) % 2=0:=by
  induction h with
  | nil=>simp
  | del x h ih=>simp only[List.length_cons];omega
  | ins y h ih=>simp only[List.length_cons];omega
  | keep x h ih=>simp only[List.length_cons];omega
theorem dist_bounds (a b:List Int):a.length≤b.length+dist a b∧b.length≤a.length+dist a b∧dist a b≤a.length+b.length∧(a.length+b.length-dist a b) % 2=0:=(ed_dist a b).len
theorem Ed.zero {a b:List Int} {n:Nat} (h:Ed a b n):n=0→a=b:=by
  induction h with
  | nil=>intro _;rfl
  | del x h ih=>intro h;omega
  | ins y h ih=>intro h;omega
  | keep x h ih=>intro h;rw[ih h]
def walkV:List Int→List Int→Int→Int→List SpanT
  | [],_,_,_=>[]
  | x::a,[],_,_=>[]
  | x::a,y::b,i,j=>if x=y then ⟨i,j⟩::walkV a b (i+1) (j+1) else if dist a (y::b)+1=dist (x::a) (y::b) then walkV a (y::b) (i+1) j else walkV (x::a) b i (j+1)
termination_by a b=>a.length+b.length
theorem walkV_nil (b:List Int) (i j:Int):walkV [] b i j=[]:=by rw[walkV]
theorem walkV_nil' (a:List Int) (i j:Int):walkV a [] i j=[]:=by cases a <;> rw[walkV]
theorem walkV_eq (x:Int) (a b:List Int) (i j:Int):walkV (x::a) (x::b) i j=⟨i,j⟩::walkV a b (i+1) (j+1):=by rw[walkV];simp
theorem walkV_ne {x y:Int} (h:x≠y) (a b:List Int) (i j:Int):walkV (x::a) (y::b) i j=if dist a (y::b)+1=dist (x::a) (y::b) then walkV a (y::b) (i+1) j else walkV (x::a) b i (j+1):=by rw[walkV];simp[h]
def chgV:List SpanT→Int→Int→List ChangeT
  | [],_,_=>[]
  | s::q,i,j=>if s.fr > i∨s.to > j then ⟨i,s.fr-i,j,s.to-j⟩::chgV q (s.fr+1) (s.to+1) else chgV q (s.fr+1) (s.to+1)
def madeV (p:List SpanT) (m n:Int):List ChangeT:=chgV (p++[⟨m,n⟩]) 0 0
@[simp] def S_script_length:List D→Prop × D:=spec1 (α:=Int) (fun _=>True) (fun n=>Rep.to (decide (0≤n∧n≤4096)))
theorem ct_script_length {P:Program} {f:Nat} {G:Gam} (h:CodeOf P f 1 2 [1] x_script_length) (hG:GamOk P G):Has P f S_script_length:=h.has1 hG fun n _=>by
  simp[x_script_length]
  omega
def numOk (n:Int):Prop:=-1000000≤n∧n≤1000000
@[simp] def S_script_fromPairs:List D→Prop × D:=spec3 (α:=List SpanT) (β:=Int) (γ:=Int) (fun p m n=>p.length≤100000∧numOk m∧numOk n∧∀s,s∈p→numOk s.fr∧numOk s.to) (fun p m n=>Rep.to (madeV p m n))
theorem ct_script_fromPairs {P:Program} {f g:Nat} {G:Gam} (h:CodeOf P f 3 13 [3] (x_script_fromPairs g)) (hG:GamOk P G) (hg:G.findR g=some R_slices_Clip_Span_Span):Has P f S_script_fromPairs:=h.has3 hG fun p m n hp=>by
  obtain⟨hp,hm,hn,hs⟩:=hp
  simp[x_script_fromPairs]
  rw[eR_clip hg (by simp) (by simp)]
  simp
  refine⟨by unfold room;omega,?_⟩
  obtain⟨q,hq⟩:∃q,q=p++[SpanT.mk m n]:=⟨_,rfl⟩
  have hqm:(List.map Rep.to p++[D.agg [D.int .i64 m,D.int .i64 n]]:List D)=q.map Rep.to:=by rw[hq];simp
  have hql:q.length=p.length+1:=by rw[hq];simp
  have hqs:∀k (h:k<q.length),numOk q[k].fr∧numOk q[k].to:=by
    intro k h
    have hm':q[k]∈p++[SpanT.mk m n]:=by rw[← hq];exact List.getElem_mem h
    rcases List.mem_append.1 hm' with h1 | h1
    · exact hs _ h1
    · rw[List.mem_singleton.1 h1];exact⟨hm,hn⟩
  rw[hqm]
  have hgoal:madeV p m n=chgV q 0 0:=by rw[hq];rfl
  rw[hgoal]
  obtain⟨Tf,hT⟩:∃Tf:Nat × List ChangeT × Int × Int→List A,∀x,Tf x=[.any,.any,.any,.any,.gr 0 4 (x.2.1.map Rep.to),.d (.int .i64 x.2.2.1),.d (.int .i64 x.2.2.2),.any,.gr 1 2 (q.map Rep.to),.d (.int .i64 q.length),.d (.int .i64 x.1),.any,.any]:=⟨_,fun _=>rfl⟩
  obtain⟨sf,hsf⟩:∃sf:Nat × List ChangeT × Int × Int→Store,∀x,sf x=[.tip x.2.1.length,.tip q.length]:=⟨_,fun _=>rfl⟩
  refine vc_ghost (σ:=Nat × List ChangeT × Int × Int) [false,false,false,false,true,true,true,false,true,true,true] 2 (fun x=>x.1≤q.length∧x.2.1.length≤x.1∧x.2.1++chgV (q.drop x.1) x.2.2.1 x.2.2.2=chgV q 0 0∧-1000001≤x.2.2.1∧x.2.2.1≤1000001∧-1000001≤x.2.2.2∧x.2.2.2≤1000001)
    (fun x=>q.length-x.1) Tf sf (0,[],0,0) (by omega) ?_ ?_ ?_
  · simp[inScope]
  · simp[hT,hsf,hql]
  rintro⟨k,out,i,j⟩ ⟨h1,h2,h3,h4,h5,h6,h7⟩
  simp only at h1 h2 h3 h4 h5 h6 h7
  rw[hT,hsf]
  simp
  refine⟨fun h8=>?_,fun h8=>?_⟩
  · obtain⟨⟨f1,f2⟩,f3,f4⟩:=hqs k h8
    rw[List.drop_eq_getElem_cons h8] at h3
    generalize hg':q[k]=sp at *
    obtain⟨fr,to⟩:=sp
    simp only at f1 f2 f3 f4
    have e1:=add1 h8 (by omega)
    have w1:=wrap_in (n:=fr+1) (by omega) (by omega)
    have w2:=wrap_in (n:=to+1) (by omega) (by omega)
    have w3:=wrap_in (n:=fr-i) (by omega) (by omega)
    have w4:=wrap_in (n:=to-j) (by omega) (by omega)
    simp[getD_map,h8,hg',inScope,pairsOk,disj,w1,w2,w3,w4,e1]
    have r1:room (out.length+1) 32:=by unfold room;omega
    have c1:(i<fr∨j<to)→out++[(⟨i,fr-i,j,to-j⟩:ChangeT)]++chgV (q.drop (k+1)) (fr+1) (to+1)=chgV q 0 0:=by
      intro h
      rw[← h3]
      simp only[chgV,gt_iff_lt,h,if_true,List.append_assoc,List.cons_append,List.nil_append]
    have c2:¬(i<fr∨j<to)→out++chgV (q.drop (k+1)) (fr+1) (to+1)=chgV q 0 0:=by
      intro h
      rw[← h3]
      simp only[chgV,gt_iff_lt,h,if_false]
    refine⟨fun h9=>⟨r1,k+1,by omega,out++[⟨i,fr-i,j,to-j⟩],fr+1,to+1,?_,?_,by omega,by simp;omega,c1 (.inl h9),by omega,by omega,by omega,by omega⟩,
      fun h9=>⟨fun h10=>⟨r1,k+1,by omega,out++[⟨i,fr-i,j,to-j⟩],fr+1,to+1,?_,?_,by omega,by simp;omega,c1 (.inr h10),by omega,by omega,by omega,by omega⟩,
        fun h10=>⟨k+1,by omega,out,fr+1,to+1,?_,?_,by omega,by omega,c2 (by omega),by omega,by omega,by omega,by omega⟩⟩⟩
    all_goals first | (rw[hT];simp;done) | (rw[hsf];simp;done) | (rw[hsf];done)
  · have h9:k=q.length:=by omega
    subst h9
    rw[List.drop_length] at h3
    simp only[chgV,List.append_nil] at h3
    rw[h3]
def ascB:List SpanT→Int→Int→Int→Int→Bool
  | [],_,_,_,_=>true
  | s::p,i,j,m,n=>decide (i≤s.fr) && decide (s.fr<m) && decide (j≤s.to) && decide (s.to<n) && ascB p (s.fr+1) (s.to+1) m n
theorem ascB_mem:∀{p:List SpanT} {i j m n:Int},ascB p i j m n=true→∀s,s∈p→i≤s.fr∧s.fr<m∧j≤s.to∧s.to<n
  | [],_,_,_,_,_,s,hs=>by simp at hs
  | x::p,i,j,m,n,h,s,hs=>by
    simp only[ascB,Bool.and_eq_true,decide_eq_true_eq] at h
    obtain⟨⟨⟨⟨h1,h2⟩,h3⟩,h4⟩,h5⟩:=h
    rcases List.mem_cons.1 hs with rfl | hs
    · exact⟨h1,h2,h3,h4⟩
    · have:=ascB_mem h5 s hs
      omega
def fromPairsV (p:List SpanT) (m n:Int):List ChangeT × Int :=
  if ¬(0≤m∧m≤4096∧0≤n∧n≤4096) then ([],80) else if ascB p 0 0 m n=true then (madeV p m n,0) else ([],3)
@[simp] def S_script_FromPairs:List D→Prop × D:=spec3 (α:=List SpanT) (β:=Int) (γ:=Int) (fun p m n=>p.length≤100000) (fun p m n=>.tup [Rep.to (fromPairsV p m n).1,.int .i64 (fromPairsV p m n).2])
theorem ct_script_FromPairs {P:Program} {f g1 g2:Nat} {G:Gam} (h:CodeOf P f 3 13 [3,4] (x_script_FromPairs g1 g2)) (hG:GamOk P G) (hg1:G.find g1=some S_script_length) (hg2:G.find g2=some S_script_fromPairs):Has P f S_script_FromPairs:=h.has3 hG fun p m n hp=>by
  simp[x_script_FromPairs,hg1]
  have bad:(m<0∨4096<m∨n<0∨4096<n)→fromPairsV p m n=([],80):=by
    intro h
    unfold fromPairsV
    rw[if_pos (by omega)]
  refine⟨fun h=>by rw[bad (by omega)];simp,fun m0 m1=>⟨fun h=>by rw[bad (by omega)];simp,fun n0 n1=>?_⟩⟩
  obtain⟨Tf,hT⟩:∃Tf:Nat × Int × Int→List A,∀x,Tf x=[.d (Rep.to p),.d (.int .i64 m),.d (.int .i64 n),.any,.any,.ref 0 0 0 0,.any,.any,.d (Rep.to p),.d (.int .i64 p.length),.d (.int .i64 x.1),.any,.any]:=⟨_,fun _=>rfl⟩
  obtain⟨sf,hsf⟩:∃sf:Nat × Int × Int→Store,∀x,sf x=[.cells 0 2 [.agg [.d (.int .i64 x.2.1),.d (.int .i64 x.2.2)]]]:=⟨_,fun _=>rfl⟩
  have hv:∀b,ascB p 0 0 m n=b→fromPairsV p m n=if b=true then (madeV p m n,0) else ([],3):=by
    intro b hb
    unfold fromPairsV
    rw[if_neg (by omega),hb]
  refine vc_ghost (σ:=Nat × Int × Int) [true,true,true,false,false,true,false,false,true,true,true] 1 (fun x=>x.1≤p.length∧ascB (p.drop x.1) (x.2.1+1) (x.2.2+1) m n=ascB p 0 0 m n)
    (fun x=>p.length-x.1) Tf sf (0,-1,-1) (by omega) ?_ ?_ ?_
  · simp[inScope]
  · simp[hT,hsf]
  rintro⟨k,lf,lt⟩ ⟨h1,h2⟩
  simp only at h1 h2
  rw[hT,hsf]
  simp
  refine⟨fun h3=>?_,fun h3=>?_⟩
  · rw[List.drop_eq_getElem_cons h3] at h2
    generalize hg':p[k]=sp at *
    obtain⟨fr,to⟩:=sp
    have e1:=add1 h3 (by omega)
    simp[getD_map,h3,hg',inScope,pairsOk,disj,e1]
    have bad2:(fr≤lf∨m≤fr∨to≤lt∨n≤to)→(fromPairsV p m n).fst=[]∧3=(fromPairsV p m n).snd:=by
      intro h
      have:ascB (⟨fr,to⟩::p.drop (k+1)) (lf+1) (lt+1) m n=false:=by
        simp only[ascB,Bool.and_eq_false_iff,decide_eq_false_iff_not]
        omega
      rw[this] at h2
      rw[hv _ h2.symm]
      simp
    refine⟨fun h=>bad2 (by omega),fun c1=>⟨fun h=>bad2 (by omega),fun c2=>⟨fun h=>bad2 (by omega),fun c3=>⟨fun h=>bad2 (by omega),fun c4=>⟨k+1,by omega,fr,to,?_,?_,by omega,?_⟩⟩⟩⟩⟩
    · rw[hT];simp
    · rw[hsf]
    · rw[← h2]
      simp only[ascB]
      have:decide (lf+1≤fr)=true∧decide (fr<m)=true∧decide (lt+1≤to)=true∧decide (to<n)=true:=by simp only[decide_eq_true_eq];omega
      simp only[this,Bool.true_and]
  · have h9:k=p.length:=by omega
    subst h9
    rw[List.drop_length] at h2
    have ha:=hv _ h2.symm
    have hm:=ascB_mem h2.symm
    simp[hg2,ha,ascB]
    refine⟨hp,⟨by omega,by omega⟩,⟨by omega,by omega⟩,fun s hs=>?_⟩
    have:=hm s hs
    exact⟨⟨by omega,by omega⟩,⟨by omega,by omega⟩⟩
@[simp] def S_shortest_limited:List D→Prop × D:=spec2 (α:=List Int) (β:=List Int) (fun _ _=>True) (fun a b=>Rep.to (decide (a.length≤4096∧b.length≤4096)))
theorem ct_shortest_limited {P:Program} {f:Nat} {G:Gam} (h:CodeOf P f 2 3 [2] x_shortest_limited) (hG:GamOk P G):Has P f S_shortest_limited:=h.has2 hG fun a b _=>by
  simp[x_shortest_limited]
  refine⟨fun h1=>?_,by omega⟩
  have h2:a.length≤4096:=by omega
  simp[h2]
  omega
def begV:List Int→List Int→Nat
  | x::a,y::b=>if x=y then begV a b+1 else 0
  | _,_=>0
theorem begV_le (a b:List Int):begV a b≤a.length∧begV a b≤b.length:=by
  induction a generalizing b with
  | nil=>simp[begV]
  | cons x a ih =>
    cases b with
    | nil=>simp[begV]
    | cons y b =>
      simp only[begV]
      split
      · have:=ih b;simp;omega
      · simp
@[simp] def S_shortest_beginning:List D→Prop × D:=spec2 (α:=List Int) (β:=List Int) (fun a _=>a.length≤9223372036854775807) (fun a b=>Rep.to ((begV a b:Nat):Int))
theorem ct_shortest_beginning {P:Program} {f:Nat} {G:Gam} (h:CodeOf P f 2 5 [2] x_shortest_beginning) (hG:GamOk P G):Has P f S_shortest_beginning:=h.has2 hG fun a b ha=>by
  simp[x_shortest_beginning]
  refine vc_ghost (σ:=Nat) [true,true,false,true] 0 (fun i=>i≤a.length∧i≤b.length∧begV (a.drop i) (b.drop i)+i=begV a b) (fun i=>a.length-i) (fun i=>[.d (Rep.to a),.d (Rep.to b),.any,.d (.int .i64 i),.any]) (fun _=>[]) 0 (Nat.le_refl _) (by simp) (by simp) ?_
  rintro i ⟨h1,h2,h3⟩
  simp
  refine⟨fun h4=>⟨fun h5=>?_,fun h5=>?_⟩,fun h4=>?_⟩
  · have e:=add1 h4 ha
    rw[List.drop_eq_getElem_cons h4,List.drop_eq_getElem_cons h5] at h3
    simp[getD_map,h4,h5,e,pairsOk]
    refine⟨fun h6=>⟨i+1,by omega,by simp,by omega,by omega,?_⟩,fun h6=>?_⟩
    · rw[begV,if_pos h6] at h3
      omega
    · rw[begV,if_neg h6] at h3
      omega
  · have:b.drop i=[]:=List.drop_eq_nil_of_le (by omega)
    rw[this] at h3
    cases hq:a.drop i <;> rw[hq] at h3 <;> simp[begV] at h3 <;> omega
  · have:a.drop i=[]:=List.drop_eq_nil_of_le (by omega)
    rw[this] at h3
    simp[begV] at h3
    omega
/-! the distances of all rests -/
def restV (a b:List Int) (k:Nat):Nat:=dist (a.drop (k / (b.length+1))) (b.drop (k % (b.length+1)))
def tabN (a b:List Int):Nat:=(a.length+1) * (b.length+1)
def tabD (a b:List Int):D:=.sl 1 ((List.range (tabN a b)).map fun k=>.int .u16 (restV a b k))
def fillP (a b:List Int) (p:Nat→Bool):List A:=(List.range (tabN a b)).map fun k=>.d (.int .u16 (if p k=true then (restV a b k:Int) else 0))
theorem fillP_len (a b:List Int) (p:Nat→Bool):(fillP a b p).length=tabN a b:=by simp[fillP]
theorem fillP_get {a b:List Int} {p:Nat→Bool} {k:Nat} (h1:p k=true) (h2:k<tabN a b):(fillP a b p).getD k .any=.d (.int .u16 (restV a b k)):=by
  simp[fillP,List.getD,h2,h1]
theorem fillP_eq {a b:List Int} {p q:Nat→Bool} (h:∀k,k<tabN a b→p k=q k∨restV a b k=0):fillP a b p=fillP a b q:=by
  refine List.map_congr_left fun k hk=>?_
  rcases h k (by simpa using hk) with h1 | h1
  · rw[h1]
  · rw[h1];simp
theorem fillP_set {a b:List Int} {p q:Nat→Bool} {c:Nat} (hc:q c=true) (h:∀k,k≠c→p k=q k):(fillP a b p).set c (.d (.int .u16 (restV a b c)))=fillP a b q:=by
  apply List.ext_getElem
  · simp[fillP]
  · intro k h1 h2
    simp only[fillP,List.length_set,List.length_map,List.length_range] at h1
    rw[List.getElem_set]
    by_cases hk:c=k
    · subst hk
      simp[fillP,hc]
    · simp only[hk,if_false,fillP,List.getElem_map,List.getElem_range,h k (Ne.symm hk)]
theorem restV_row {a b:List Int} {i j:Nat} (hj:j≤b.length):restV a b (i * (b.length+1)+j)=dist (a.drop i) (b.drop j):=by
  unfold restV
  have h1:(i * (b.length+1)+j) / (b.length+1)=i:=by
    rw[Nat.add_comm,Nat.add_mul_div_right _ _ (by omega),Nat.div_eq_of_lt (by omega)];omega
  have h2:(i * (b.length+1)+j) % (b.length+1)=j:=by
    rw[Nat.add_comm,Nat.add_mul_mod_self_right,Nat.mod_eq_of_lt (by omega)]
  rw[h1,h2]
theorem fill_lt {a b:List Int} {i j:Nat} (hi:i≤a.length) (hj:j≤b.length):i * (b.length+1)+j<tabN a b:=by
  unfold tabN
  have:i * (b.length+1)≤a.length * (b.length+1):=Nat.mul_le_mul_right _ hi
  rw[Nat.add_mul]
  omega
@[simp] def S_shortest_distances:List D→Prop × D:=spec2 (α:=List Int) (β:=List Int) (fun a b=>a.length≤4096∧b.length≤4096) (fun a b=>tabD a b)
theorem ct_shortest_distances {P:Program} {f:Nat} {G:Gam} (h:CodeOf P f 2 16 [2] x_shortest_distances) (hG:GamOk P G):Has P f S_shortest_distances:=h.has2 hG fun a b hp=>by
  obtain⟨ha,hb⟩:=hp
  have w1:=wrap_in (n:=(b.length:Int)+1) (by omega) (by omega)
  have w2:=wrap_in (n:=(a.length:Int)+1) (by omega) (by omega)
  have hN:tabN a b≤4097 * 4097:=Nat.mul_le_mul (by omega) (by omega)
  have w3:IntKind.i64.wrap (((a.length:Int)+1) * ((b.length:Int)+1))=(tabN a b:Int):=by
    rw[wrap_in]
    · unfold tabN;push_cast;rfl
    · have:(0:Int)≤((a.length:Int)+1) * ((b.length:Int)+1):=Int.mul_nonneg (by omega) (by omega)
      omega
    · have:((tabN a b:Nat):Int)=((a.length:Int)+1) * ((b.length:Int)+1):=by unfold tabN;push_cast;rfl
      omega
  obtain⟨q,hq⟩:∃q:Nat→Nat,∀i,q i=i * (b.length+1):=⟨_,fun _=>rfl⟩
  obtain⟨r,hr⟩:∃r:Nat→Nat→Nat,∀i j,r i j=i * (b.length+1)+j:=⟨_,fun _ _=>rfl⟩
  have hqM:∀i:Nat,i≤a.length+1→q i≤tabN a b:=fun i hi=>by rw[hq];exact Nat.mul_le_mul_right _ hi
  have hq1:∀i:Nat,q (i+1)=q i+(b.length+1):=fun i=>by rw[hq,hq,Nat.add_mul];omega
  have hqr:∀i j:Nat,r i j=q i+j:=fun i j=>by rw[hq,hr]
  have hrl:∀i j:Nat,i≤a.length→j≤b.length→r i j<tabN a b:=fun i j hi hj=>by rw[hr];exact fill_lt hi hj
  have hrv:∀i j:Nat,j≤b.length→restV a b (r i j)=dist (a.drop i) (b.drop j):=fun i j hj=>by rw[hr];exact restV_row hj
  have cM:∀i:Nat,i≤a.length+1→IntKind.i64.wrap ((i:Int) * ((b.length:Int)+1))=(q i:Int):=by
    intro i hi
    have e:(i:Int) * ((b.length:Int)+1)=(q i:Int):=by rw[hq];push_cast;rfl
    have:=hqM i hi
    rw[e,wrap_in (by omega) (by omega)]
  have cA:∀i j:Nat,i≤a.length→j≤b.length→IntKind.i64.wrap ((q i:Int)+(j:Int))=(r i j:Int):=by
    intro i j hi hj
    have:=hrl i j hi hj
    have e:(q i:Int)+(j:Int)=(r i j:Int):=by rw[hqr];push_cast;rfl
    rw[e,wrap_in (by omega) (by omega)]
  simp[x_shortest_distances,w1,w2,w3]
  refine⟨⟨by unfold room;omega,by omega⟩,?_⟩
  obtain⟨T1,hT1⟩:∃Tf:Nat→List A,∀j,Tf j=[.d (Rep.to a),.d (Rep.to b),.any,.d (.int .i64 (b.length+1)),.own 0 0 0 (tabN a b),.any,.any,.any,.any,.any,.d (.int .i64 b.length),.d (.int .i64 j),.any,.any,.any,.any]:=⟨_,fun _=>rfl⟩
  obtain⟨f1,hf1⟩:∃f:Nat→List A,∀j,f j=fillP a b (fun k=>decide (q a.length≤k) && decide (k<q a.length+j)):=⟨_,fun _=>rfl⟩
  have f1l:∀j,(f1 j).length=tabN a b:=fun j=>by rw[hf1,fillP_len]
  refine vc_ghost (σ:=Nat) [true,true,false,true,true,false,false,false,false,false,true,true] 1 (fun j=>j≤b.length) (fun j=>b.length-j) T1 (fun j=>[.cells 0 1 (f1 j)]) 0 (by omega) (by simp[inScope]) ?_ ?_
  · refine⟨by simp[hT1],?_,by omega⟩
    simp only[List.take_succ_cons,List.take_zero,List.cons.injEq,Ob.cells.injEq,true_and,and_true]
    rw[hf1]
    apply List.ext_getElem
    · simp[fillP]
    · intro k h1 h2
      have:¬(q a.length≤k∧k<q a.length+0):=by omega
      simp[fillP]
      omega
  · intro j hj
    rw[hT1]
    simp
    refine⟨fun h1=>?_,fun h1=>?_⟩
    · have c1:=cM a.length (by omega)
      have c2:=cA a.length j (by omega) (by omega)
      have c3:=add1 h1 (by omega)
      have c4:=wrap_in (n:=(b.length:Int)-j) (by omega) (by omega)
      have c6:=hrl a.length j (by omega) (by omega)
      have c5:IntKind.u16.wrap ((b.length:Int)-j)=(restV a b (r a.length j):Int):=by
        rw[hrv _ _ (by omega),List.drop_length,dist_nil]
        simp[IntKind.wrap,IntKind.bits,IntKind.signed]
        omega
      simp[c1,c2,c3,c4,c5,c6,f1l]
      refine⟨by simp[inScope],j+1,by omega,by rw[hT1];simp,?_,by omega⟩
      rw[hf1,hf1]
      have e:=hqr a.length j
      exact fillP_set (by simp;omega) (fun k hk=>by
        by_cases h2:q a.length≤k <;> simp[h2]
        omega)
    · have h2:j=b.length:=by omega
      obtain⟨f2,hf2⟩:∃f:Nat→List A,∀c,f c=fillP a b (fun k=>decide (c≤k)):=⟨_,fun _=>rfl⟩
      have f2l:∀j,(f2 j).length=tabN a b:=fun j=>by rw[hf2,fillP_len]
      have e1:f1 j=f2 (q a.length):=by
        rw[hf1,hf2]
        refine fillP_eq fun k hk=>?_
        rcases Nat.lt_or_ge k (q a.length+j) with h3 | h3
        · left;simp[h3]
        · right
          have e9:k=r a.length b.length:=by
            rw[hqr]
            have:tabN a b=q a.length+(b.length+1):=by rw[hq];unfold tabN;rw[Nat.add_mul];omega
            omega
          rw[e9,hrv _ _ (Nat.le_refl _),List.drop_length,List.drop_length,dist_nil]
          rfl
      have w4:=wrap_in (n:=(a.length:Int)-1) (by omega) (by omega)
      rw[e1]
      obtain⟨T2,hT2⟩:∃Tf:Nat→List A,∀i,Tf i=[.d (Rep.to a),.d (Rep.to b),.any,.d (.int .i64 (b.length+1)),.own 0 0 0 (tabN a b),.any,.d (.int .i64 ((i:Int)-1)),.any,.any,.any,.any,.any,.any,.any,.any,.any]:=⟨_,fun _=>rfl⟩
      simp[w4]
      refine vc_ghost (σ:=Nat) [true,true,false,true,true,false,true] 1 (fun i=>i≤a.length) (fun i=>i) T2 (fun i=>[.cells 0 1 (f2 (q i))]) a.length (by omega) (by simp[inScope]) ?_ ?_
      · exact⟨by simp[hT2],by simp,by omega⟩
      · intro i hi
        rcases Nat.eq_zero_or_pos i with h0 | h0
        · subst h0
          rw[hT2]
          simp
          have q0:q 0=0:=by rw[hq];simp
          have hall:f2 (q 0)=(List.range (tabN a b)).map fun k=>.d (.int .u16 (restV a b k)):=by
            rw[hf2,q0]
            exact List.map_congr_left fun k hk=>by simp
          rw[hall]
          simp only[bor,List.getD_cons_zero,List.drop_zero]
          rw[List.take_of_length_le (by simp)]
          refine⟨⟨trivial,?_⟩,?_⟩
          · rw[List.all_eq_true]
            intro x hx
            obtain⟨k,_,rfl⟩:=List.mem_map.1 hx
            rfl
          · rw[List.map_map]
            simp only[tabD,LeD_sl,true_and]
            rfl
        · obtain⟨p,rfl⟩:∃p,i=p+1:=⟨i-1,by omega⟩
          have e2:(((p+1:Nat):Int))-1=(p:Int):=by omega
          have e3:=wrap_in (n:=(p:Int)+1) (by omega) (by omega)
          have e4:=wrap_in (n:=(p:Int)+2) (by omega) (by omega)
          have g0:=cM p (by omega)
          have g1:IntKind.i64.wrap (((p:Int)+1) * ((b.length:Int)+1))=(q (p+1):Int):=by have:=cM (p+1) (by omega);push_cast at this;exact this
          have g2:IntKind.i64.wrap (((p:Int)+2) * ((b.length:Int)+1))=(q (p+2):Int):=by have:=cM (p+2) (by omega);push_cast at this;exact this
          have g3:=hq1 p
          have g4:q (p+2)=q (p+1)+(b.length+1):=hq1 (p+1)
          have g5:=hqM (p+2) (by omega)
          have hap:p<a.length:=by omega
          have w5:=wrap_in (n:=(b.length:Int)-1) (by omega) (by omega)
          have w6:=wrap_in (n:=(a.length:Int)-p) (by omega) (by omega)
          have w7:IntKind.u16.wrap ((a.length:Int)-p)=(restV a b (r p b.length):Int):=by
            rw[hrv _ _ (by omega),List.drop_length,dist_nil']
            simp[IntKind.wrap,IntKind.bits,IntKind.signed]
            omega
          have w8:=wrap_in (n:=(p:Int)-1) (by omega) (by omega)
          have e5:(f2 (q (p+1))).set (q p+b.length) (.d (.int .u16 (restV a b (r p b.length))))=f2 (r p b.length):=by
            rw[hf2,hf2,← hqr]
            have:=hqr p b.length
            exact fillP_set (by simp) (fun k hk=>by simp;omega)
          rw[hT2,e2]
          simp[e3,e4,g0,g1,g2,f2l,w5,w6,w7,e5]
          refine⟨by omega,by omega,by omega,by omega,?_⟩
          obtain⟨T3,hT3⟩:∃Tf:Nat→List A,∀j,Tf j=[.d (Rep.to a),.d (Rep.to b),.any,.d (.int .i64 (b.length+1)),.own 0 0 0 (tabN a b),.any,.d (.int .i64 p),.own 0 0 (q p) (q (p+1)-q p),.own 0 0 (q (p+1)) (q (p+2)-q (p+1)),.d (.int .i64 ((j:Int)-1)),.any,.any,.any,.any,.any,.any]:=⟨_,fun _=>rfl⟩
          refine vc_ghost (σ:=Nat) [true,true,false,true,true,false,true,true,true,true] 1 (fun j=>j≤b.length) (fun j=>j) T3 (fun j=>[.cells 0 1 (f2 (r p j))]) b.length (by omega) (by simp[inScope]) ?_ ?_
          · exact⟨by simp[hT3],by simp,by omega⟩
          · intro j hj
            rcases Nat.eq_zero_or_pos j with j0 | j0
            · subst j0
              rw[hT3]
              simp[w8]
              refine⟨by simp[inScope],p,by omega,?_,?_,by omega⟩
              · rw[hT2];simp
              · rw[hqr];rfl
            · obtain⟨t,rfl⟩:∃t,j=t+1:=⟨j-1,by omega⟩
              have e6:(((t+1:Nat):Int))-1=(t:Int):=by omega
              have hbt:t<b.length:=by omega
              have e7:=wrap_in (n:=(t:Int)+1) (by omega) (by omega)
              have e8:=wrap_in (n:=(t:Int)-1) (by omega) (by omega)
              rw[hT3,e6]
              have fg:∀x y:Nat,r p (t+1)≤q x+y→q x+y<tabN a b→y≤b.length→(f2 (r p (t+1)))[q x+y]?=some (.d (.int .u16 (dist (a.drop x) (b.drop y):Nat))):=by
                intro x y h1 h2 h3
                have:=fillP_get (a:=a) (b:=b) (p:=fun k=>decide (r p (t+1)≤k)) (k:=q x+y) (by simpa using h1) h2
                rw[← hqr,hrv x y h3] at this
                rw[← hf2] at this
                rw[← hqr]
                have h4:r x y<(f2 (r p (t+1))).length:=by rw[f2l,hqr];exact h2
                rw[getD_lt _ _ h4] at this
                rw[List.getElem?_eq_getElem h4,this]
              have k1:=hqr p (t+1)
              have k2:=fg (p+1) (t+1) (by omega) (by omega) (by omega)
              have k3:=fg (p+1) t (by omega) (by omega) (by omega)
              have k4:=fg p (t+1) (by omega) (by omega) (by omega)
              have k5:∀v:Nat,v=dist (a.drop p) (b.drop t)→(f2 (r p (t+1))).set (q p+t) (.d (.int .u16 v))=f2 (r p t):=by
                intro v hv
                have e:=hrv p t (by omega)
                rw[hv,← e,hf2,hf2,← hqr]
                have:=hqr p t
                exact fillP_set (by simp) (fun k hk=>by simp;omega)
              have da:a.drop p=a[p]::a.drop (p+1):=List.drop_eq_getElem_cons hap
              have db:b.drop t=b[t]::b.drop (t+1):=List.drop_eq_getElem_cons hbt
              have b1:=(dist_bounds (a.drop (p+1)) (b.drop t)).2.2.1
              simp only[List.length_drop] at b1
              have w9:a[p]≠b[t]→IntKind.u16.wrap (min (dist (a.drop (p+1)) (b.drop t):Int) (dist (a.drop p) (b.drop (t+1)):Int)+1)=((dist (a.drop p) (b.drop t):Nat):Int):=by
                intro hne
                have e:dist (a.drop p) (b.drop t)=1+min (dist (a.drop (p+1)) (b.drop t)) (dist (a.drop p) (b.drop (t+1))):=by
                  conv=>lhs;rw[da,db,dist_ne hne,← da,← db]
                rw[e]
                simp only[IntKind.wrap,IntKind.bits,IntKind.signed]
                simp
                omega
              have hsc:∀v:Nat,inScope 1 [A.d (D.sl 1 (List.map Rep.to a)),A.d (D.sl 1 (List.map Rep.to b)),A.any,A.d (D.int .i64 (b.length+1)),A.own 0 0 0 (tabN a b),A.any,A.d (D.int .i64 p),A.own 0 0 (q p) (q (p+1)-q p),A.own 0 0 (q (p+1)) (q (p+2)-q (p+1)),A.d (D.int .i64 ((t:Int)-1)),A.any,A.any,A.any,A.any,A.any,A.any] [Ob.cells 0 1 ((f2 (r p (t+1))).set (q p+t) (A.d (D.int .u16 v)))]:=fun v=>.inl (by simp)
              simp[getD_map,hap,hbt,e7,e8,f2l,k2,k3,k4]
              refine⟨fun hq=>⟨by omega,by omega,by omega,by omega,hsc _,t,by omega,?_,?_,by omega⟩,fun hne=>⟨by omega,by omega,by omega,by omega,by omega,by omega,?_,t,by omega,?_,?_,by omega⟩⟩
              · rw[hT3];simp
              · exact k5 _ (by rw[da,db,hq,dist_eq])
              · rw[w9 hne];exact hsc _
              · rw[hT3];simp
              · rw[w9 hne];exact k5 _ rfl
def walkS (args:List A) (s0:Store):Prop × Store × A :=
  match args,s0 with
  | [.d (.int .i64 i),.d (.int .i64 j),.ref 0 v 0 0,.ref 1 u 0 0],[.cells v' 1 [.d (.sl 1 xs)],.cells u' 1 [.d (.sl 1 ys)]] =>
    match xs.getD (i.toNat * (ys.length+1)+j.toNat) default with
    | .int .u16 n=>(v=v'∧u=u'∧0≤i∧i≤4096∧0≤j∧j≤4096∧ys.length≤4096∧i.toNat * (ys.length+1)+j.toNat<xs.length∧0≤n∧n≤65535,[.cells v 1 [.d (.sl 1 xs)],.cells u 1 [.d (.sl 1 ys)]],.d (.int .i64 n))
    | _=>(False,[],.any)
  | _,_=>(False,[],.any)
def walkR (args:List A) (_:Store) (_:Nat):List Nat :=
  match args with
  | [_,_,.ref l _ _ _,.ref m _ _ _]=>[l,m]
  | _=>[]
abbrev R_shortest_walk_1:RSpec:=⟨walkR,walkS⟩
theorem ct_shortest_walk_1 {P:Program} {f:Nat} (hc:CodeOf P f 4 5 [4] x_shortest_walk_1):RSpec.Ok P f R_shortest_walk_1:=by
  refine⟨hc.call,fun _ _ _ _ _=>rfl,?_⟩
  intro args s0 hp
  simp only[walkS] at hp ⊢
  split at hp
  · rename_i i j v u v' xs u' ys
    split at hp
    · rename_i n hn
      obtain⟨rfl,rfl,h1,h2,h3,h4,h5,h6,h7,h8⟩:=hp
      obtain⟨p,rfl⟩:=Int.eq_ofNat_of_zero_le h1
      obtain⟨q,rfl⟩:=Int.eq_ofNat_of_zero_le h3
      simp only[Int.toNat_natCast] at hn h6 ⊢
      refine hc.rcalls (GamOk.nil _) rfl ?_
      have hm:p * (ys.length+1)≤4096 * 4097:=Nat.mul_le_mul (by omega) (by omega)
      have w1:=wrap_in (n:=(ys.length:Int)+1) (by omega) (by omega)
      obtain⟨k,hk⟩:∃k,k=p * (ys.length+1):=⟨_,rfl⟩
      have w2:IntKind.i64.wrap ((p:Int) * ((ys.length:Int)+1))=(k:Int):=by
        have e:(p:Int) * ((ys.length:Int)+1)=(k:Int):=by rw[hk];push_cast;rfl
        rw[e,wrap_in (by omega) (by omega)]
      have w3:IntKind.i64.wrap ((k:Int)+(q:Int))=((k+q:Nat):Int):=by rw[wrap_in (by omega) (by omega)];rfl
      rw[← hk] at hn h6
      have w4:=wrap_in (n:=n) (by omega) (by omega)
      rw[List.getD,List.getElem?_eq_getElem h6] at hn
      simp only[Option.getD_some] at hn
      simp[x_shortest_walk_1,startA,w1,w2]
      rw[w3]
      generalize k+q=c at *
      simp[h6,hn,w4]
      exact⟨by simp[resPre],[0,1],rfl,⟨by decide,by simp,rfl⟩,fun k hk=>.inl (by match k,hk with | 0,_=>rfl | 1,_=>rfl),rfl,rfl,rfl⟩
    · exact hp.elim
  · exact hp.elim
theorem eR_walk1 {G:Gam} {f:Nat} (hf:G.findR f=some R_shortest_walk_1) {s:Store} {nw l m v u i j:Nat} {a b:List Int} (h1:s.getD l .dead=.cells v 1 [.d (tabD a b)]) (h2:s.getD m .dead=.cells u 1 [.d (.sl 1 (b.map Rep.to))])
    (h3:l≠m) (h4:l<s.length∧m<s.length) (h5:i≤a.length∧j≤b.length) (h6:a.length≤4096∧b.length≤4096) {x y:Int} (hx:x=i) (hy:y=j) :
    eRCall G s nw f [.d (.int .i64 x),.d (.int .i64 y),.ref l v 0 0,.ref m u 0 0]=⟨True,[(l,.cells v 1 [.d (tabD a b)]),(m,.cells u 1 [.d (.sl 1 (b.map Rep.to))])],.d (.int .i64 ((dist (a.drop i) (b.drop j):Nat):Int))⟩:=by
  subst hx hy
  obtain⟨l1,l2⟩:=h4
  have hlt:=fill_lt (a:=a) (b:=b) h5.1 h5.2
  have hrow:=restV_row (a:=a) (b:=b) (i:=i) h5.2
  have hb:=(dist_bounds (a.drop i) (b.drop j)).2.2.1
  simp only[List.length_drop] at hb
  have hv:((List.range (tabN a b)).map fun k=>D.int .u16 (restV a b k)).getD (i * (b.length+1)+j) default=.int .u16 (dist (a.drop i) (b.drop j):Nat):=by
    rw[getD_lt _ _ (by simpa using hlt),List.getElem_map,List.getElem_range,hrow]
  unfold eRCall
  rw[hf]
  simp only[walkR,List.map_cons,List.map_nil,h1,h2]
  have q1:i≤4096:=by omega
  have q2:j≤4096:=by omega
  have q3:dist (a.drop i) (b.drop j)≤65535:=by omega
  simp only[tabD] at *
  simp[walkS,h3,l1,l2,h6.2,hlt,-List.getD_eq_getElem?_getD,hv]
  omega
theorem walkV_beg:∀(a b:List Int) (i j:Int),walkV a b i j=(List.range (begV a b)).map (fun k=>(⟨i+(k:Nat),j+(k:Nat)⟩:SpanT))++walkV (a.drop (begV a b)) (b.drop (begV a b)) (i+(begV a b:Nat)) (j+(begV a b:Nat))
  | [],b,i,j=>by simp[begV,walkV_nil]
  | x::a,[],i,j=>by simp[begV,walkV_nil']
  | x::a,y::b,i,j=>by
    by_cases h:x=y
    · subst h
      rw[walkV_eq,walkV_beg a b (i+1) (j+1)]
      simp only[begV,if_true,List.range_succ_eq_map,List.map_cons,List.map_map,List.cons_append,List.drop_succ_cons]
      congr 1
      · simp
      · congr 1
        · refine List.map_congr_left fun k _=>?_
          simp only[Function.comp,SpanT.mk.injEq]
          omega
        · congr 1 <;> push_cast <;> omega
    · simp[begV,h]
@[simp] def S_shortest_walk:List D→Prop × D:=spec2 (α:=List Int) (β:=List Int) (fun a b=>a.length≤4096∧b.length≤4096) (fun a b=>Rep.to (walkV a b 0 0))
theorem ct_shortest_walk {P:Program} {f g1 g2 g3:Nat} {G:Gam} (h:CodeOf P f 2 17 [3] (x_shortest_walk g1 g2 g3)) (hG:GamOk P G) (hg1:G.find g1=some S_shortest_beginning) (hg2:G.find g2=some S_shortest_distances) (hg3:G.findR g3=some R_shortest_walk_1):Has P f S_shortest_walk:=h.has2 hG fun a b hp=>by
  obtain⟨ha,hb⟩:=hp
  obtain⟨b1,b2⟩:=begV_le a b
  simp[x_shortest_walk,hg1]
  refine⟨by omega,?_⟩
  obtain⟨n,hn⟩:∃n,n=begV a b:=⟨_,rfl⟩
  rw[← hn] at b1 b2 ⊢
  obtain⟨pre,hpre⟩:∃pre:Nat→List SpanT,∀k,pre k=(List.range k).map (fun k=>(⟨(k:Nat),(k:Nat)⟩:SpanT)):=⟨_,fun _=>rfl⟩
  have hpl:∀k,(pre k).length=k:=fun k=>by rw[hpre];simp
  have hps:∀k,pre (k+1)=pre k++[⟨(k:Nat),(k:Nat)⟩]:=fun k=>by rw[hpre,hpre,List.range_succ,List.map_append];rfl
  obtain⟨T1,hT1⟩:∃Tf:Nat→List A,∀k,Tf k=[.d (Rep.to a),.any,.ref 0 0 0 0,.any,.gr 1 2 ((pre k).map Rep.to),.d (.int .i64 n),.any,.any,.any,.any,.any,.d (.int .i64 n),.d (.int .i64 k),.any,.any,.any,.any]:=⟨_,fun _=>rfl⟩
  refine vc_ghost (σ:=Nat) [true,false,true,false,true,true,false,false,false,false,false,true,true] 2 (fun k=>k≤n) (fun k=>n-k) T1 (fun k=>[.cells 0 1 [.d (Rep.to b)],.tip k]) 0 (by omega) (by simp[inScope]) ?_ ?_
  · exact⟨by simp[hT1,hpre],by simp,by omega⟩
  intro k hk
  rw[hT1]
  simp
  refine⟨fun h1=>?_,fun h1=>?_⟩
  · have e:=add1 h1 (by omega)
    simp[hpl,e]
    refine⟨by unfold room;omega,by simp[inScope],k+1,by omega,?_,rfl,by omega⟩
    rw[hT1,hps]
    simp
  · have hkn:k=n:=by omega
    subst hkn
    obtain⟨a',ha'⟩:∃a',a'=a.drop k:=⟨_,rfl⟩
    obtain⟨b',hb'⟩:∃b',b'=b.drop k:=⟨_,rfl⟩
    have la:a'.length=a.length-k:=by rw[ha'];simp
    have lb:b'.length=b.length-k:=by rw[hb'];simp
    have ma:(List.take (a.length-k) (List.drop k (List.map Rep.to a)):List D)=a'.map Rep.to:=by rw[← List.map_drop,← ha',List.take_of_length_le (by simp;omega)]
    have mb:(List.take (b.length-k) (List.drop k (List.map Rep.to b)):List D)=b'.map Rep.to:=by rw[← List.map_drop,← hb',List.take_of_length_le (by simp;omega)]
    have hw:=walkV_beg a b 0 0
    rw[← hn,← ha',← hb'] at hw
    simp only[Int.zero_add] at hw
    rw[← hpre] at hw
    simp[ma,mb,hg2,pairsOk,b1,b2]
    refine⟨⟨by omega,by omega⟩,by simp[tabD],?_⟩
    obtain⟨T2,hT2⟩:∃Tf:List SpanT × Nat × Nat→List A,∀x,Tf x=[.d (Rep.to a'),.any,.ref 0 0 0 0,.any,.gr 1 2 (x.1.map Rep.to),.d (.int .i64 k),.any,.any,.fn (.func g3) [] [.ref 2 0 0 0,.ref 0 0 0 0],.d (.int .i64 x.2.1),.d (.int .i64 x.2.2),.any,.any,.any,.any,.any,.any]:=⟨_,fun _=>rfl⟩
    obtain⟨s2,hs2⟩:∃sf:List SpanT × Nat × Nat→Store,∀x,sf x=[.cells 0 1 [.d (Rep.to b')],.tip x.1.length,.cells 0 1 [.d (tabD a' b')]]:=⟨_,fun _=>rfl⟩
    refine vc_ghost (σ:=List SpanT × Nat × Nat) [true,false,true,false,true,true,false,false,true,true,true] 3 (fun x=>x.2.1≤a'.length∧x.2.2≤b'.length∧x.1.length≤k+x.2.1∧x.1++walkV (a'.drop x.2.1) (b'.drop x.2.2) (k+x.2.1) (k+x.2.2)=walkV a b 0 0)
      (fun x=>(a'.length-x.2.1)+(b'.length-x.2.2)) T2 s2 (pre k,0,0) (by omega) (by simp[inScope]) ?_ ?_
    · refine⟨by simp[hT2],by simp[hs2,hpl],by simp,by simp,by simp[hpl],?_⟩
      rw[hw]
      simp
    rintro⟨out,i,j⟩ ⟨h2,h3,h4,h5⟩
    simp only at h2 h3 h4 h5
    have e1:=wrap_in (n:=(i:Int)+1) (by omega) (by omega)
    have e2:=wrap_in (n:=(j:Int)+1) (by omega) (by omega)
    have e3:=wrap_in (n:=(k:Int)+i) (by omega) (by omega)
    have e4:=wrap_in (n:=(k:Int)+j) (by omega) (by omega)
    have hr2:∀(s:Store) (nw:Nat),s.getD 2 .dead=.cells 0 1 [.d (tabD a' b')]→s.getD 0 .dead=.cells 0 1 [.d (.sl 1 (b'.map Rep.to))]→2<s.length→eRCall G s nw g3 [.d (.int .i64 i),.d (.int .i64 j),.ref 2 0 0 0,.ref 0 0 0 0]=⟨True,[(2,.cells 0 1 [.d (tabD a' b')]),(0,.cells 0 1 [.d (.sl 1 (b'.map Rep.to))])],.d (.int .i64 ((dist (a'.drop i) (b'.drop j):Nat):Int))⟩ :=
      fun s nw q1 q2 q3=>eR_walk1 hg3 q1 q2 (by omega) ⟨q3,by omega⟩ ⟨h2,h3⟩ ⟨by omega,by omega⟩ rfl rfl
    have hr1:i<a'.length→∀(s:Store) (nw:Nat),s.getD 2 .dead=.cells 0 1 [.d (tabD a' b')]→s.getD 0 .dead=.cells 0 1 [.d (.sl 1 (b'.map Rep.to))]→2<s.length→eRCall G s nw g3 [.d (.int .i64 (i+1)),.d (.int .i64 j),.ref 2 0 0 0,.ref 0 0 0 0]=⟨True,[(2,.cells 0 1 [.d (tabD a' b')]),(0,.cells 0 1 [.d (.sl 1 (b'.map Rep.to))])],.d (.int .i64 ((dist (a'.drop (i+1)) (b'.drop j):Nat):Int))⟩ :=
      fun h s nw q1 q2 q3=>eR_walk1 hg3 q1 q2 (by omega) ⟨q3,by omega⟩ ⟨h,h3⟩ ⟨by omega,by omega⟩ rfl rfl
    have db:=(dist_bounds (a'.drop (i+1)) (b'.drop j)).2.2.1
    simp only[List.length_drop] at db
    have e5:=wrap_in (n:=((dist (a'.drop (i+1)) (b'.drop j):Nat):Int)+1) (by omega) (by omega)
    rw[hT2,hs2]
    have hro:room (out.length+1) 16:=by unfold room;omega
    by_cases hi:i<a'.length <;> by_cases hj:j<b'.length
    · have ea:a'.drop i=a'[i]::a'.drop (i+1):=List.drop_eq_getElem_cons hi
      have eb:b'.drop j=b'[j]::b'.drop (j+1):=List.drop_eq_getElem_cons hj
      have c1:a'[i]=b'[j]→out++[(⟨k+i,k+j⟩:SpanT)]++walkV (a'.drop (i+1)) (b'.drop (j+1)) (k+(i+1)) (k+(j+1))=walkV a b 0 0:=by
        intro he
        rw[ea,eb,he,walkV_eq] at h5
        rw[← h5,Int.add_assoc,Int.add_assoc]
        simp
      have c2:a'[i]≠b'[j]→dist (a'.drop (i+1)) (b'.drop j)+1=dist (a'.drop i) (b'.drop j)→out++walkV (a'.drop (i+1)) (b'.drop j) (k+(i+1)) (k+j)=walkV a b 0 0:=by
        intro he hd
        rw[ea,eb,walkV_ne he,← ea,← eb,if_pos hd] at h5
        rw[← h5,Int.add_assoc]
      have c3:a'[i]≠b'[j]→¬(dist (a'.drop (i+1)) (b'.drop j)+1=dist (a'.drop i) (b'.drop j))→out++walkV (a'.drop i) (b'.drop (j+1)) (k+i) (k+(j+1))=walkV a b 0 0:=by
        intro he hd
        rw[ea,eb,walkV_ne he,← ea,← eb,if_neg hd] at h5
        rw[← h5,Int.add_assoc]
      simp[hi,hj,getD_map,pairsOk,e1,e2,e3,e4,e5,hro,eCallv,hr1 hi,hr2]
      refine⟨fun he=>⟨by simp[inScope],out++[⟨k+i,k+j⟩],i+1,j+1,by omega,?_,?_,hi,hj,by simp;omega,c1 he⟩,
        fun he=>⟨fun hd=>⟨by simp[inScope],out,i+1,j,by omega,?_,?_,hi,h3,by omega,c2 he (by omega)⟩,fun hd=>⟨by simp[inScope],out,i,j+1,by omega,?_,?_,h2,hj,h4,c3 he (by omega)⟩⟩⟩
      all_goals first | (rw[hT2];simp;done) | (rw[hs2];simp;done)
    · have hj2:b'.drop j=[]:=List.drop_eq_nil_of_le (by omega)
      rw[hj2,walkV_nil'] at h5
      have hd0:dist (a'.drop (i+1)) (b'.drop j)+1=dist (a'.drop i) (b'.drop j):=by
        rw[hj2,dist_nil',dist_nil',List.length_drop,List.length_drop];omega
      simp[hi,hj,getD_map,pairsOk,e1,e2,e3,e4,e5,hro,eCallv,hr1 hi,hr2]
      refine⟨fun hd=>⟨by simp[inScope],out,i+1,j,by omega,?_,?_,hi,h3,by omega,?_⟩,fun hd=>absurd (by omega) hd⟩
      · rw[hT2];simp
      · rw[hs2];simp
      · rw[hj2,walkV_nil'];exact h5
    · have hi2:a'.drop i=[]:=List.drop_eq_nil_of_le (by omega)
      rw[hi2,walkV_nil] at h5
      simp[hi,hj,getD_map,pairsOk,e1,e2,e3,e4,e5,hro,eCallv,hr2]
      refine⟨by simp[inScope],out,i,j+1,by omega,?_,?_,h2,hj,h4,?_⟩
      · rw[hT2];simp
      · rw[hs2];simp
      · rw[hi2,walkV_nil];exact h5
    · have hi2:a'.drop i=[]:=List.drop_eq_nil_of_le (by omega)
      rw[hi2,walkV_nil,List.append_nil] at h5
      simp[hi,hj,getD_map,pairsOk,e1,e2,e3,e4,e5,hro,eCallv,hr2]
      rw[h5]
def scriptV (a b:List Int):List ChangeT:=madeV (walkV a b 0 0) a.length b.length
def longV (a b:List Int):Prop:=¬(a.length≤4096∧b.length≤4096)
instance (a b:List Int):Decidable (longV a b):=inferInstanceAs (Decidable (¬_))
theorem walkV_asc:∀(a b:List Int) (i j:Int),ascB (walkV a b i j) i j (i+a.length) (j+b.length)=true:=by
  have mono:∀(p:List SpanT) (i j i' j' m n m' n':Int),i'≤i→j'≤j→m≤m'→n≤n'→ascB p i j m n=true→ascB p i' j' m' n'=true:=by
    intro p
    induction p with
    | nil=>intros;rfl
    | cons s p ih =>
      intro i j i' j' m n m' n' h1 h2 h3 h4 h
      simp only[ascB,Bool.and_eq_true,decide_eq_true_eq] at h ⊢
      obtain⟨⟨⟨⟨k1,k2⟩,k3⟩,k4⟩,k5⟩:=h
      exact⟨⟨⟨⟨by omega,by omega⟩,by omega⟩,by omega⟩,ih _ _ _ _ _ _ _ _ (Int.le_refl _) (Int.le_refl _) h3 h4 k5⟩
  intro a b
  generalize hn:a.length+b.length=n
  induction n using Nat.strongRecOn generalizing a b with
  | _ n ih =>
    intro i j
    cases a with
    | nil=>rw[walkV_nil];rfl
    | cons x a =>
      cases b with
      | nil=>rw[walkV_nil'];rfl
      | cons y b =>
        simp only[List.length_cons] at hn ⊢
        by_cases h:x=y
        · subst h
          rw[walkV_eq]
          simp only[ascB,Bool.and_eq_true,decide_eq_true_eq]
          refine⟨⟨⟨⟨by omega,by omega⟩,by omega⟩,by omega⟩,?_⟩
          have:=ih (a.length+b.length) (by omega) a b rfl (i+1) (j+1)
          exact mono _ _ _ _ _ _ _ _ _ (Int.le_refl _) (Int.le_refl _) (by omega) (by omega) this
        · rw[walkV_ne h]
          split
          · have:=ih (a.length+(b.length+1)) (by omega) a (y::b) (by simp) (i+1) j
            simp only[List.length_cons] at this
            exact mono _ _ _ _ _ _ _ _ _ (by omega) (by omega) (by omega) (by omega) this
          · have:=ih ((a.length+1)+b.length) (by omega) (x::a) b (by simp) i (j+1)
            simp only[List.length_cons] at this
            exact mono _ _ _ _ _ _ _ _ _ (by omega) (by omega) (by omega) (by omega) this
theorem walkV_len (a b:List Int) (i j:Int):(walkV a b i j).length≤a.length:=by
  generalize hn:a.length+b.length=n
  induction n using Nat.strongRecOn generalizing a b i j with
  | _ n ih =>
    cases a with
    | nil=>rw[walkV_nil];simp
    | cons x a =>
      cases b with
      | nil=>rw[walkV_nil'];simp
      | cons y b =>
        simp only[List.length_cons] at hn ⊢
        by_cases h:x=y
        · subst h
          rw[walkV_eq]
          have:=ih (a.length+b.length) (by omega) a b (i+1) (j+1) rfl
          simp only[List.length_cons]
          omega
        · rw[walkV_ne h]
          split
          · have:=ih (a.length+(b.length+1)) (by omega) a (y::b) (i+1) j (by simp)
            omega
          · have:=ih ((a.length+1)+b.length) (by omega) (x::a) b i (j+1) (by simp)
            simpa using this
@[simp] def S_shortest_Script:List D→Prop × D:=spec2 (α:=List Int) (β:=List Int) (fun a b=>a.length≤1048576∧b.length≤1048576) (fun a b=>.tup [Rep.to (if longV a b then [] else scriptV a b),.int .i64 (if longV a b then 1 else 0)])
theorem ct_shortest_Script {P:Program} {f g1 g2 g3:Nat} {G:Gam} (h:CodeOf P f 2 5 [2,3] (x_shortest_Script g1 g2 g3)) (hG:GamOk P G) (hg1:G.find g1=some S_shortest_limited) (hg2:G.find g2=some S_shortest_walk) (hg3:G.find g3=some S_script_FromPairs):Has P f S_shortest_Script:=h.has2 hG fun a b hp=>by
  obtain⟨ha,hb⟩:=hp
  simp[x_shortest_Script,hg1]
  have hL:longV a b↔(4096<a.length∨4096<b.length):=by unfold longV;omega
  refine⟨fun h=>?_,fun h1 h2=>?_⟩
  · have:=hL.2 h
    simp[this]
  · have hnl:¬longV a b:=by rw[hL];omega
    have hw:=walkV_asc a b 0 0
    simp only[Int.zero_add] at hw
    have hl:=walkV_len a b 0 0
    have hfp:fromPairsV (walkV a b 0 0) a.length b.length=(scriptV a b,0):=by
      unfold fromPairsV
      rw[if_neg (by omega),if_pos hw]
      rfl
    simp[hg2,hg3,hnl,h1,h2,hfp]
    omega
end Go.AE
namespace Go.AE
theorem chgV_len:∀(q:List SpanT) (i j:Int),(chgV q i j).length≤q.length
  | [],_,_=>by simp[chgV]
  | s::q,i,j=>by
    have:=chgV_len q (s.fr+1) (s.to+1)
    simp only[chgV]
    split <;> simp <;> omega
theorem scriptV_len (a b:List Int):(scriptV a b).length≤a.length+1:=by
  unfold scriptV madeV
  have h1:=chgV_len (walkV a b 0 0++[⟨a.length,b.length⟩]) 0 0
  have h2:=walkV_len a b 0 0
  simp only[List.length_append,List.length_cons,List.length_nil] at h1
  omega
def inV (n:Int):Bool:=decide (0≤n∧n≤4096)
def stepV (c:ChangeT) (i j:Int) (first:Bool):Bool :=
  inV c.old && inV c.oldLen && inV c.new && inV c.newLen && !decide (c.oldLen+c.newLen=0) && decide (c.old-i=c.new-j) && decide (i≤c.old) && (first || !decide (c.old=i))
def okV:List ChangeT→Int→Int→Bool→Int→Int→Bool
  | [],i,j,_,m,n=>decide (m-i=n-j) && decide (i≤m)
  | c::l,i,j,first,m,n=>stepV c i j first && okV l (c.old+c.oldLen) (c.new+c.newLen) false m n
def checkV (l:List ChangeT) (m n:Int):Bool:=inV m && inV n && okV l 0 0 true m n
theorem stepV_true {c:ChangeT} {i j:Int} {fst:Bool} (h:stepV c i j fst=true) :
    (0≤c.old∧c.old≤4096)∧(0≤c.oldLen∧c.oldLen≤4096)∧(0≤c.new∧c.new≤4096)∧(0≤c.newLen∧c.newLen≤4096)∧c.oldLen+c.newLen≠0∧c.old-i=c.new-j∧i≤c.old∧(fst=false→c.old≠i):=by
  simp only[stepV,inV,Bool.and_eq_true,decide_eq_true_eq,Bool.not_eq_true',decide_eq_false_iff_not,Bool.or_eq_true] at h
  obtain⟨⟨⟨⟨⟨⟨⟨h1,h2⟩,h3⟩,h4⟩,h5⟩,h6⟩,h7⟩,h8⟩:=h
  refine⟨h1,h2,h3,h4,h5,h6,h7,fun h=>?_⟩
  rw[h] at h8
  simpa using h8
def runN:Nat→Int→Int→List SpanT
  | 0,_,_=>[]
  | n+1,i,j=>⟨i,j⟩::runN n (i+1) (j+1)
theorem runN_snoc:∀(n:Nat) (i j:Int),runN (n+1) i j=runN n i j++[⟨i+n,j+n⟩]
  | 0,i,j=>by simp[runN]
  | n+1,i,j=>by
    rw[runN,runN_snoc n]
    simp only[runN,List.cons_append]
    congr 4 <;> push_cast <;> omega
def matV:List ChangeT→Int→Int→Int→List SpanT
  | [],i,j,m=>runN (m-i).toNat i j
  | c::l,i,j,m=>runN (c.old-i).toNat i j++matV l (c.old+c.oldLen) (c.new+c.newLen) m
def fitsV (l:List ChangeT) (a b:List Int):Bool:=checkV l a.length b.length && (matV l 0 0 a.length).all fun s=>decide (a.getD s.fr.toNat 0=b.getD s.to.toNat 0)
def cntV (n:Int):Int:=if inV n then n else 0
def sizeV:List ChangeT→Int × Int
  | []=>(0,0)
  | c::l=>(cntV c.oldLen+(sizeV l).1,cntV c.newLen+(sizeV l).2)
theorem runN_one (i j:Int):runN 1 i j=[⟨i,j⟩]:=rfl
theorem okV_chgV:∀(p:List SpanT) (i j i0 j0 m n:Int) (fst:Bool),0≤i0→i0≤i→i-i0=j-j0→0≤j0→(fst=false→i0<i)→i≤m→j≤n→m≤4096→n≤4096→ascB p i j m n=true →
    okV (chgV (p++[⟨m,n⟩]) i j) i0 j0 fst m n=true∧matV (chgV (p++[⟨m,n⟩]) i j) i0 j0 m=runN (i-i0).toNat i0 j0++p:=by
  intro p
  induction p with
  | nil =>
    intro i j i0 j0 m n fst h1 h2 h3 h4 h5 h6 h7 h8 h9 _
    simp only[List.nil_append,chgV,gt_iff_lt]
    split
    · refine⟨?_,?_⟩
      · have:stepV ⟨i,m-i,j,n-j⟩ i0 j0 fst=true:=by
          cases fst
          · have:=h5 rfl
            simp[stepV,inV]
            omega
          · simp[stepV,inV]
            omega
        simp only[okV,this,Bool.true_and,Bool.and_eq_true,decide_eq_true_eq]
        omega
      · simp only[matV]
        rw[show (m-(i+(m-i))).toNat=0 by omega]
        simp[runN]
    · refine⟨?_,?_⟩
      · simp only[okV,Bool.and_eq_true,decide_eq_true_eq]
        omega
      · simp only[matV]
        rw[show (m-i0).toNat=(i-i0).toNat by omega]
        simp
  | cons s p ih =>
    intro i j i0 j0 m n fst h1 h2 h3 h4 h5 h6 h7 h8 h9 ha
    simp only[ascB,Bool.and_eq_true,decide_eq_true_eq] at ha
    obtain⟨⟨⟨⟨k1,k2⟩,k3⟩,k4⟩,k5⟩:=ha
    obtain⟨fr,to⟩:=s
    simp only at k1 k2 k3 k4 k5
    simp only[List.cons_append,chgV,gt_iff_lt]
    split
    · obtain⟨e1,e2⟩:=ih (fr+1) (to+1) fr to m n false (by omega) (by omega) (by omega) (by omega) (fun _=>by omega) (by omega) (by omega) h8 h9 k5
      have:stepV ⟨i,fr-i,j,to-j⟩ i0 j0 fst=true:=by
        cases fst
        · have:=h5 rfl
          simp[stepV,inV]
          omega
        · simp[stepV,inV]
          omega
      have a1:i+(fr-i)=fr:=by omega
      have a2:j+(to-j)=to:=by omega
      refine⟨?_,?_⟩
      · simp only[okV,this,Bool.true_and,a1,a2]
        exact e1
      · simp only[matV,a1,a2,e2]
        rw[show (fr+1-fr).toNat=1 by omega,runN_one]
        rfl
    · obtain⟨e1,e2⟩:=ih (fr+1) (to+1) i0 j0 m n fst (by omega) (by omega) (by omega) (by omega) (fun _=>by omega) (by omega) (by omega) h8 h9 k5
      refine⟨e1,?_⟩
      rw[e2,show (fr+1-i0).toNat=(i-i0).toNat+1 by omega,runN_snoc,List.append_assoc]
      congr 1
      simp only[List.cons_append,List.nil_append,List.cons.injEq,SpanT.mk.injEq,and_true]
      omega
theorem sizeV_chgV:∀(p:List SpanT) (i j m n:Int),0≤i→0≤j→i≤m→j≤n→m≤4096→n≤4096→ascB p i j m n=true →
    (sizeV (chgV (p++[⟨m,n⟩]) i j)).1=m-i-p.length∧(sizeV (chgV (p++[⟨m,n⟩]) i j)).2=n-j-p.length:=by
  have cnt:∀x:Int,0≤x→x≤4096→cntV x=x:=fun x h1 h2=>by simp[cntV,inV];omega
  intro p
  induction p with
  | nil =>
    intro i j m n h1 h2 h3 h4 h5 h6 _
    simp only[List.nil_append,chgV,gt_iff_lt]
    split
    · simp only[sizeV,cnt (m-i) (by omega) (by omega),cnt (n-j) (by omega) (by omega),List.length_nil]
      omega
    · simp only[sizeV,List.length_nil]
      omega
  | cons s p ih =>
    intro i j m n h1 h2 h3 h4 h5 h6 ha
    simp only[ascB,Bool.and_eq_true,decide_eq_true_eq] at ha
    obtain⟨⟨⟨⟨k1,k2⟩,k3⟩,k4⟩,k5⟩:=ha
    obtain⟨fr,to⟩:=s
    simp only at k1 k2 k3 k4 k5
    have:=ih (fr+1) (to+1) m n (by omega) (by omega) (by omega) (by omega) h5 h6 k5
    simp only[List.cons_append,chgV,gt_iff_lt,List.length_cons]
    split
    · simp only[sizeV,cnt (fr-i) (by omega) (by omega),cnt (to-j) (by omega) (by omega)]
      omega
    · omega
theorem walkV_mem (a b:List Int) (i j:Int):∀s,s∈walkV a b i j→a.getD (s.fr-i).toNat 0=b.getD (s.to-j).toNat 0:=by
  generalize hn:a.length+b.length=n
  induction n using Nat.strongRecOn generalizing a b i j with
  | _ n ih =>
    cases a with
    | nil=>rw[walkV_nil];simp
    | cons x a =>
      cases b with
      | nil=>rw[walkV_nil'];simp
      | cons y b =>
        simp only[List.length_cons] at hn
        have hasc:=walkV_asc (x::a) (y::b) i j
        intro s hs
        by_cases h:x=y
        · subst h
          rw[walkV_eq] at hs
          simp only[List.mem_cons] at hs
          rcases hs with rfl | hs
          · simp
          · have:=ih (a.length+b.length) (by omega) a b (i+1) (j+1) rfl s hs
            have hb:=ascB_mem (walkV_asc a b (i+1) (j+1)) s hs
            rw[show (s.fr-i).toNat=(s.fr-(i+1)).toNat+1 by omega,show (s.to-j).toNat=(s.to-(j+1)).toNat+1 by omega,List.getD_cons_succ,List.getD_cons_succ]
            exact this
        · rw[walkV_ne h] at hs
          split at hs
          · have:=ih (a.length+(b.length+1)) (by omega) a (y::b) (i+1) j (by simp) s hs
            have hb:=ascB_mem (walkV_asc a (y::b) (i+1) j) s hs
            rw[show (s.fr-i).toNat=(s.fr-(i+1)).toNat+1 by omega,List.getD_cons_succ]
            exact this
          · have:=ih ((a.length+1)+b.length) (by omega) (x::a) b i (j+1) (by simp) s hs
            have hb:=ascB_mem (walkV_asc (x::a) b i (j+1)) s hs
            rw[show (s.to-j).toNat=(s.to-(j+1)).toNat+1 by omega,List.getD_cons_succ]
            exact this
theorem script_ok {a b:List Int} (ha:a.length≤4096) (hb:b.length≤4096):checkV (scriptV a b) a.length b.length=true∧matV (scriptV a b) 0 0 a.length=walkV a b 0 0 ∧
    (sizeV (scriptV a b)).1=a.length-(walkV a b 0 0).length∧(sizeV (scriptV a b)).2=b.length-(walkV a b 0 0).length:=by
  have hw:=walkV_asc a b 0 0
  simp only[Int.zero_add] at hw
  have h1:=okV_chgV (walkV a b 0 0) 0 0 0 0 a.length b.length true (by omega) (by omega) (by omega) (by omega) (by simp) (by omega) (by omega) (by omega) (by omega) hw
  have h2:=sizeV_chgV (walkV a b 0 0) 0 0 a.length b.length (by omega) (by omega) (by omega) (by omega) (by omega) (by omega) hw
  refine⟨?_,?_,?_,?_⟩
  · simp only[checkV,Bool.and_eq_true]
    exact⟨⟨by simp[inV];omega,by simp[inV];omega⟩,h1.1⟩
  · exact h1.2
  · rw[show sizeV (scriptV a b)=sizeV (chgV (walkV a b 0 0++[⟨a.length,b.length⟩]) 0 0) from rfl,h2.1]
    omega
  · rw[show sizeV (scriptV a b)=sizeV (chgV (walkV a b 0 0++[⟨a.length,b.length⟩]) 0 0) from rfl,h2.2]
    omega
theorem script_fits {a b:List Int} (ha:a.length≤4096) (hb:b.length≤4096):fitsV (scriptV a b) a b=true:=by
  obtain⟨h1,h2,_⟩:=script_ok ha hb
  simp only[fitsV,h1,h2,Bool.true_and,List.all_eq_true,decide_eq_true_eq]
  intro s hs
  have:=walkV_mem a b 0 0 s hs
  simpa using this
end Go.AE
namespace Go.AE
def orU (a b:Int):Int:=IntKind.u32.wrap (((a % 2 ^ IntKind.u32.bits).toNat ||| (b % 2 ^ IntKind.u32.bits).toNat:Nat):Int)
def hitV (l:List MergedT) (bit:Int) (i e:Nat):List MergedT:=((l.drop i).take (e-i)).map fun m=>⟨m.line,orU m.parents bit⟩
theorem hitV_step {l:List MergedT} {bit:Int} {i e:Nat} (h:i<e) (h2:i<l.length):hitV l bit i e=⟨l[i].line,orU l[i].parents bit⟩::hitV l bit (i+1) e:=by
  unfold hitV
  rw[List.drop_eq_getElem_cons h2,show e-i=(e-(i+1))+1 by omega,List.take_succ_cons,List.map_cons]
theorem hitV_self (l:List MergedT) (bit:Int) (i:Nat):hitV l bit i i=[]:=by simp[hitV]
theorem okV_le:∀(l:List ChangeT) (i j m n:Int) (fst:Bool),okV l i j fst m n=true→i≤m∧j≤n
  | [],i,j,m,n,fst,h=>by
    simp only[okV,Bool.and_eq_true,decide_eq_true_eq] at h
    omega
  | c::l,i,j,m,n,fst,h=>by
    simp only[okV,Bool.and_eq_true] at h
    have h1:=okV_le l _ _ _ _ _ h.2
    have h2:=stepV_true h.1
    omega
def newV (lines:List Int) (bit:Int) (j e:Nat):List MergedT:=((lines.drop j).take (e-j)).map fun x=>⟨x,bit⟩
def oldV (l:List MergedT) (i e:Nat):List MergedT:=(l.drop i).take (e-i)
theorem newV_self (l:List Int) (bit:Int) (i:Nat):newV l bit i i=[]:=by simp[newV]
theorem oldV_self (l:List MergedT) (i:Nat):oldV l i i=[]:=by simp[oldV]
theorem newV_len (l:List Int) (bit:Int) (i e:Nat):(newV l bit i e).length≤e-i:=by simp[newV];omega
theorem oldV_len (l:List MergedT) (i e:Nat):(oldV l i e).length≤e-i:=by simp[oldV];omega
theorem hitV_len (l:List MergedT) (bit:Int) (i e:Nat):(hitV l bit i e).length≤e-i:=by simp[hitV];omega
def mergeS (l:List MergedT) (lines:List Int) (bit:Int):List ChangeT→Nat→List MergedT
  | [],t=>hitV l bit t l.length
  | c::r,t=>hitV l bit t c.old.toNat++oldV l c.old.toNat (c.old+c.oldLen).toNat++newV lines bit c.new.toNat (c.new+c.newLen).toNat++mergeS l lines bit r (c.old+c.oldLen).toNat
theorem mergeS_len (l:List MergedT) (lines:List Int) (bit:Int):∀(r:List ChangeT) (i j:Int) (fst:Bool),0≤i→0≤j→okV r i j fst l.length lines.length=true→(mergeS l lines bit r i.toNat).length+i.toNat+j.toNat≤l.length+lines.length
  | [],i,j,fst,hi,hj,h=>by
    have:=hitV_len l bit i.toNat l.length
    simp only[okV,Bool.and_eq_true,decide_eq_true_eq] at h
    simp only[mergeS]
    omega
  | c::r,i,j,fst,hi,hj,h=>by
    simp only[okV,Bool.and_eq_true] at h
    have h2:=stepV_true h.1
    have h1:=mergeS_len l lines bit r _ _ _ (by omega) (by omega) h.2
    have a1:=hitV_len l bit i.toNat c.old.toNat
    have a2:=oldV_len l c.old.toNat (c.old+c.oldLen).toNat
    have a3:=newV_len lines bit c.new.toNat (c.new+c.newLen).toNat
    simp only[mergeS,List.length_append]
    omega
def mlinesV (l:List MergedT):List Int:=l.map MergedT.line
def getU (m p:Int):Int:=IntKind.u32.wrap (((m.fdiv (2 ^ min p.toNat IntKind.u32.bits) % 2 ^ IntKind.u32.bits).toNat &&& 1 % 2 ^ IntKind.u32.bits:Nat):Int)
theorem u32_wrap {n:Nat} (h:n<4294967296):IntKind.u32.wrap ((n:Nat):Int)=n:=by
  simp only[IntKind.wrap,IntKind.bits,IntKind.signed]
  simp
  omega
theorem orU_nat {a b:Nat} (ha:a<4294967296) (hb:b<4294967296):orU a b=((a ||| b:Nat):Int):=by
  have e:(2:Int) ^ IntKind.u32.bits=4294967296:=rfl
  unfold orU
  rw[e]
  have h1:((a:Int) % 4294967296).toNat=a:=by omega
  have h2:((b:Int) % 4294967296).toNat=b:=by omega
  rw[h1,h2,u32_wrap]
  have:(4294967296:Nat)=2 ^ 32:=rfl
  rw[this] at *
  exact Nat.or_lt_two_pow ha hb
theorem getU_nat {m p:Nat} (hm:m<4294967296) (hp:p<32):getU m p=if m.testBit p=true then 1 else 0:=by
  have e:(2:Int) ^ IntKind.u32.bits=4294967296:=rfl
  have e2:(2:Nat) ^ IntKind.u32.bits=4294967296:=rfl
  have e3:min ((p:Int)).toNat IntKind.u32.bits=p:=by simp only[IntKind.bits,Int.toNat_natCast];omega
  unfold getU
  rw[e,e2,e3]
  have h0:((2:Int) ^ p)=((2 ^ p:Nat):Int):=by push_cast;rfl
  have h1:(m:Int).fdiv (2 ^ p)=((m / 2 ^ p:Nat):Int):=by rw[h0,Int.fdiv_eq_ediv_of_nonneg _ (Int.natCast_nonneg _)];rfl
  have h4:m.testBit p=decide ((m / 2 ^ p) % 2=1):=by rw[Nat.testBit_eq_decide_div_mod_eq]
  have hlt:m / 2 ^ p<4294967296:=Nat.lt_of_le_of_lt (Nat.div_le_self _ _) hm
  rw[h1]
  generalize m / 2 ^ p=d at *
  have h2:((d:Int) % 4294967296).toNat=d:=by omega
  rw[h2]
  have h3:d &&& 1 % 4294967296=d % 2:=by simp[Nat.and_one_is_mod]
  rw[h3,u32_wrap (by omega),h4]
  by_cases h5:d % 2=1
  · simp[h5]
  · have:d % 2=0:=by omega
    simp[this]
def hasV (p:Int) (m:MergedT):Bool:=decide (getU m.parents p=1)
def joinV (l:List MergedT) (lines:List Int) (bit:Int):List SpanT→Nat→Nat→List MergedT
  | [],i,j=>oldV l i l.length++newV lines bit j lines.length
  | s::q,i,j=>oldV l i s.fr.toNat++newV lines bit j s.to.toNat++hitV l bit s.fr.toNat (s.fr.toNat+1)++joinV l lines bit q (s.fr.toNat+1) (s.to.toNat+1)
theorem hitV_app {l:List MergedT} {bit:Int} {t i:Nat} (h:t≤i):hitV l bit t (i+1)=hitV l bit t i++hitV l bit i (i+1):=by
  unfold hitV
  rw[← List.map_append,show i+1-t=(i-t)+1 by omega,show i+1-i=1 by omega,List.take_add,List.drop_drop,show t+(i-t)=i by omega]
theorem mergeS_join (l:List MergedT) (lines:List Int) (bit:Int):∀(q:List SpanT) (i j t:Nat),t≤i→i≤l.length→j≤lines.length→ascB q i j l.length lines.length=true →
    mergeS l lines bit (chgV (q++[⟨l.length,lines.length⟩]) i j) t=hitV l bit t i++joinV l lines bit q i j
  | [],i,j,t,h1,h2,h3,_=>by
    simp only[List.nil_append,chgV,gt_iff_lt,joinV]
    split
    · have e1:((i:Int)+((l.length:Int)-i)).toNat=l.length:=by omega
      have e2:((j:Int)+((lines.length:Int)-j)).toNat=lines.length:=by omega
      simp only[mergeS,e1,e2,hitV_self,Int.toNat_natCast,List.append_nil,List.append_assoc]
    · have e1:i=l.length:=by omega
      have e2:j=lines.length:=by omega
      subst e1 e2
      simp[mergeS,oldV_self,newV_self]
  | s::q,i,j,t,h1,h2,h3,ha=>by
    simp only[ascB,Bool.and_eq_true,decide_eq_true_eq] at ha
    obtain⟨⟨⟨⟨k1,k2⟩,k3⟩,k4⟩,k5⟩:=ha
    obtain⟨fr,to⟩:=s
    simp only at k1 k2 k3 k4 k5
    obtain⟨fr,rfl⟩:=Int.eq_ofNat_of_zero_le (show 0≤fr by omega)
    obtain⟨to,rfl⟩:=Int.eq_ofNat_of_zero_le (show 0≤to by omega)
    have c1:((fr:Int)+1)=((fr+1:Nat):Int):=by push_cast;rfl
    have c2:((to:Int)+1)=((to+1:Nat):Int):=by push_cast;rfl
    rw[c1,c2] at k5
    simp only[List.cons_append,chgV,gt_iff_lt,joinV,Int.toNat_natCast]
    split
    · have e1:((i:Int)+((fr:Int)-i)).toNat=fr:=by omega
      have e2:((j:Int)+((to:Int)-j)).toNat=to:=by omega
      simp only[mergeS,e1,e2,Int.toNat_natCast]
      rw[c1,c2,mergeS_join l lines bit q (fr+1) (to+1) fr (by omega) (by omega) (by omega) k5]
      simp only[List.append_assoc]
    · have e1:i=fr:=by omega
      have e2:j=to:=by omega
      subst e1 e2
      rw[c1,c2,mergeS_join l lines bit q (i+1) (j+1) t (by omega) (by omega) (by omega) k5,oldV_self,newV_self,hitV_app h1]
      simp only[List.nil_append,List.append_assoc]
def mergeV (l:List MergedT) (lines:List Int) (bit:Int):List MergedT:=mergeS l lines bit (scriptV (mlinesV l) lines) 0
theorem mlinesV_len (l:List MergedT):(mlinesV l).length=l.length:=by simp[mlinesV]
theorem mergeV_join (l:List MergedT) (lines:List Int) (bit:Int):mergeV l lines bit=joinV l lines bit (walkV (mlinesV l) lines 0 0) 0 0:=by
  have hw:=walkV_asc (mlinesV l) lines 0 0
  simp only[Int.zero_add,mlinesV_len] at hw
  have:=mergeS_join l lines bit (walkV (mlinesV l) lines 0 0) 0 0 0 (by omega) (by omega) (by omega) hw
  rw[hitV_self,List.nil_append] at this
  rw[← this]
  simp[mergeV,scriptV,madeV,mlinesV_len]
theorem mergeV_len {l:List MergedT} {lines:List Int} (bit:Int) (h1:l.length≤4096) (h2:lines.length≤4096):(mergeV l lines bit).length≤l.length+lines.length:=by
  have k:=(script_ok (a:=mlinesV l) (b:=lines) (by rw[mlinesV_len];exact h1) h2).1
  simp only[checkV,Bool.and_eq_true,mlinesV_len] at k
  have:=mergeS_len l lines bit _ 0 0 true (by omega) (by omega) k.2
  simpa [mergeV] using this
def bitV (p:Nat):Int:=IntKind.u32.wrap (2 ^ min p IntKind.u32.bits)
theorem bitN (p:Nat):IntKind.u32.wrap (2 ^ min p IntKind.u32.bits)=bitV p:=rfl
theorem bitV_nat {p:Nat} (h:p<32):bitV p=((2 ^ p:Nat):Int):=by
  have h1:min p IntKind.u32.bits=p:=by simp only[IntKind.bits];omega
  have h2:2 ^ p<2 ^ 32:=Nat.pow_lt_pow_right (by omega) h
  unfold bitV
  rw[h1,show ((2:Int) ^ p)=((2 ^ p:Nat):Int) by push_cast;rfl,u32_wrap (by omega)]
def coalO:List (List Int)→Nat→List MergedT→Option (List MergedT)
  | [],_,l=>some l
  | x::r,p,l=>if longV (mlinesV l) x then none else coalO r (p+1) (mergeV l x (bitV p))
def sumL (l:List (List Int)):Nat:=(l.map List.length).sum
def coalD (xs:List (List Int)):D:=match (if 32<xs.length then none else coalO xs 0 []) with
  | some m=>.tup [Rep.to m,.int .i64 0]
  | none=>.tup [Rep.to ([]:List MergedT),.int .i64 1]
theorem sumL_drop {xs:List (List Int)} {k:Nat} (h:k<xs.length):sumL (xs.drop k)=xs[k].length+sumL (xs.drop (k+1)):=by
  unfold sumL
  rw[List.drop_eq_getElem_cons h,List.map_cons,List.sum_cons]
structure Lost1 where
  e:Int
  t:Int
  out:List MergedT
  l:List MergedT
  bit:Int
  v0:Nat
  v1:Nat
  v2:Nat
  v3:Nat
@[simp] def F_lost_merge_1:RF Lost1 where
  new:=0
  view a s:=⟨(a.getD 0 .any).gi,((s.getD 0 .dead).at 0 0).gi,((s.getD 1 .dead).at 0 0).gl MergedT,((s.getD 2 .dead).at 0 0).gl MergedT,((s.getD 3 .dead).at 0 0).gi,(s.getD 0 .dead).ver,(s.getD 1 .dead).ver,(s.getD 2 .dead).ver,(s.getD 3 .dead).ver⟩
  args x:=[.d (.int .i64 x.e),.ref 0 x.v0 0 0,.ref 1 x.v1 0 0,.ref 2 x.v2 0 0,.ref 3 x.v3 0 0]
  st x:=[.cells x.v0 1 [.d (.int .i64 x.t)],.cells x.v1 1 [.gr 4 2 (x.out.map Rep.to)],.cells x.v2 1 [.d (Rep.to x.l)],.cells x.v3 1 [.d (.int .u32 x.bit)],.tip x.out.length]
  pre x:=0≤x.t∧x.t≤x.e∧x.e≤x.l.length∧x.l.length≤1048576∧x.out.length+x.l.length≤4194304
  res x:=.tup []
  st' x:=[.cells x.v0 1 [.d (.int .i64 x.e)],.cells x.v1 1 [.gr 4 2 ((x.out++hitV x.l x.bit x.t.toNat x.e.toNat).map Rep.to)],.cells x.v2 1 [.d (Rep.to x.l)],.cells x.v3 1 [.d (.int .u32 x.bit)],.tip (x.out++hitV x.l x.bit x.t.toNat x.e.toNat).length]
abbrev R_lost_merge_1:RSpec:=F_lost_merge_1.spec
theorem ct_lost_merge_1 {P:Program} {f:Nat} (hc:CodeOf P f 5 6 [] x_lost_merge_1):RSpec.Ok P f R_lost_merge_1:=by
  refine RF.ok hc.call fun x hx=>hc.rcalls (GamOk.nil _) rfl ?_
  obtain⟨e,t,out,l,bit,v0,v1,v2,v3⟩:=x
  obtain⟨h1,h2,h3,h4,h5⟩:=hx
  simp only at h1 h2 h3 h4 h5
  obtain⟨t,rfl⟩:=Int.eq_ofNat_of_zero_le h1
  obtain⟨e,rfl⟩:=Int.eq_ofNat_of_zero_le (Int.le_trans h1 h2)
  simp[x_lost_merge_1,startA]
  refine vc_lp (σ:=Nat × List MergedT) (fun x=>x.1≤e∧x.2.length≤out.length+x.1∧x.2++hitV l bit x.1 e=out++hitV l bit t e) (fun x=>e-x.1)
    (fun x=>[.d (.int .i64 e),.ref 0 v0 0 0,.ref 1 v1 0 0,.ref 2 v2 0 0,.ref 3 v3 0 0,.any])
    (fun x=>[.cells v0 1 [.d (.int .i64 x.1)],.cells v1 1 [.gr 4 2 (x.2.map Rep.to)],.cells v2 1 [.d (Rep.to l)],.cells v3 1 [.d (.int .u32 bit)],.tip x.2.length]) (t,out) (by simp) (by simp) ⟨by simp;omega,by simp,rfl⟩ ?_
  rintro⟨k,o⟩ ⟨g1,g2,g3⟩
  simp only at g1 g2 g3
  by_cases g4:k<e
  · have g5:k<l.length:=by omega
    simp[g4,g5,getD_map]
    simp (disch:=omega) only[wrap_in]
    refine⟨by unfold room;omega,Nxt.mk (k+1,o++[⟨l[k].line,orU l[k].parents bit⟩]) (by simp;omega) (by simp) (by simp[orU]) ⟨by simp;omega,by simp;omega,?_⟩⟩
    rw[hitV_step g4 g5] at g3
    rw[← g3]
    simp
  · have:k=e:=by omega
    subst this
    rw[hitV_self,List.append_nil] at g3
    subst g3
    simp
    exact FinR.done (by simp) (by simp) rfl rfl (by simp) (by simp)
@[simp] def S_lost_numbers:List D→Prop × D:=spec1 (α:=List MergedT) (fun l=>l.length≤4194304) (fun l=>Rep.to (mlinesV l))
theorem ct_lost_numbers {P:Program} {f:Nat} {G:Gam} (h:CodeOf P f 1 8 [1] x_lost_numbers) (hG:GamOk P G):Has P f S_lost_numbers:=h.has1 hG fun l hl=>by
  simp[x_lost_numbers]
  refine vc_lp (σ:=Nat) (fun k=>k≤l.length) (fun k=>l.length-k) (fun k=>[.any,.any,.gr 0 1 (((mlinesV l).take k).map Rep.to),.any,.d (Rep.to l),.d (.int .i64 l.length),.d (.int .i64 k),.any]) (fun k=>[.tip k]) 0 (by simp) (by simp) (by simp) ?_
  intro k hk
  by_cases h1:k<l.length
  · have h2:k<(mlinesV l).length:=by simpa [mlinesV] using h1
    have h3:(mlinesV l)[k]=l[k].line:=by simp[mlinesV]
    have h4:(mlinesV l).length=l.length:=by simp[mlinesV]
    simp[h1,getD_map,add1 h1 (by omega),h4,Nat.min_eq_left (show k≤l.length by omega)]
    refine⟨by unfold room;omega,Nxt.mk (k+1) (by omega) ?_ (by simp) (by omega)⟩
    rw[take_to h2,h3]
    simp
  · have:k=l.length:=by omega
    subst this
    have h4:(mlinesV l).length=l.length:=by simp[mlinesV]
    simp
    rw[List.take_of_length_le (by simp[h4])]
@[simp] def S_lost_merge:List D→Prop × D:=spec3 (α:=List MergedT) (β:=List Int) (γ:=U32T) (fun l lines _=>l.length≤1048576∧lines.length≤1048576) (fun l lines bit=>.tup [Rep.to (if longV (mlinesV l) lines then [] else mergeV l lines bit.n),.int .i64 (if longV (mlinesV l) lines then 1 else 0)])
theorem ct_lost_merge {P:Program} {f g1 g2 g3:Nat} {G:Gam} (h:CodeOf P f 3 23 [5,6] (x_lost_merge g1 g2 g3)) (hG:GamOk P G) (hg1:G.find g1=some S_lost_numbers) (hg2:G.find g2=some S_shortest_Script) (hg3:G.findR g3=some R_lost_merge_1):Has P f S_lost_merge:=h.has3 hG fun l lines bit hp=>by
  obtain⟨hl,hn⟩:=hp
  obtain⟨bit⟩:=bit
  have hll:(mlinesV l).length=l.length:=by simp[mlinesV]
  have l1:l.length≤4194304:=by omega
  by_cases hL:longV (mlinesV l) lines
  · simp[x_lost_merge,hg1,hg2,hl,hn,l1,hll,hL]
  · have hL':l.length≤4096∧lines.length≤4096:=by unfold longV at hL;omega
    obtain⟨k1,_⟩:=script_ok (a:=mlinesV l) (b:=lines) (by omega) (by omega)
    simp only[checkV,Bool.and_eq_true] at k1
    have k1:=k1.2
    rw[hll] at k1
    have hml:=mergeS_len l lines bit _ 0 0 true (by omega) (by omega) k1
    have hsl:=scriptV_len (mlinesV l) lines
    simp[x_lost_merge,hg1,hg2,hl,hn,l1,hll,hL]
    have hM:mergeV l lines bit=mergeS l lines bit (scriptV (mlinesV l) lines) 0:=rfl
    generalize scriptV (mlinesV l) lines=sc at *
    simp only[Int.toNat_zero] at hml
    rw[← hM] at hml
    refine vc_lpR (σ:=Nat × Nat × Nat × List MergedT) (fun x=>x.1≤sc.length∧x.2.1≤l.length∧x.2.2.1≤lines.length∧okV (sc.drop x.1) x.2.1 x.2.2.1 (decide (x.1=0)) l.length lines.length=true∧x.2.2.2++mergeS l lines bit (sc.drop x.1) x.2.1=mergeV l lines bit) (fun x=>sc.length-x.1)
      (fun x=>[.any,.d (Rep.to lines),.any,.ref 0 0 0 0,.ref 1 0 0 0,.any,.any,.any,.any,.ref 2 0 0 0,.ref 3 0 0 0,.fn (.func g3) [] [.ref 3 0 0 0,.ref 2 0 0 0,.ref 0 0 0 0,.ref 1 0 0 0],.any,.any,.any,.d (Rep.to sc),.d (.int .i64 sc.length),.d (.int .i64 x.1),.any,.any,.any,.any,.any])
      (fun x=>[.cells 0 1 [.d (Rep.to l)],.cells 0 1 [.d (.int .u32 bit)],.cells 0 1 [.gr 4 2 (x.2.2.2.map Rep.to)],.cells 0 1 [.d (.int .i64 x.2.1)],.tip x.2.2.2.length]) (0,0,0,[]) ?_ ?_ ?_
    · refine Re.weak (k:=[.tip 0]) (s':=[.cells 0 1 [.d (Rep.to l)],.cells 0 1 [.d (.int .u32 bit)],.cells 0 1 [.gr 4 2 []],.cells 0 1 [.d (.int .i64 0)]]) (by simp) (by simp) (by simp) ⟨.inl rfl,.inl rfl,.cellsL ?_,.inl rfl,trivial⟩
      simp
      exact Wk.fresh 4 [.tip 0] 2 0 rfl
    · exact⟨by simp,by simp,by simp,by simpa using k1,by simp[hM]⟩
    rintro⟨k,i,j,out⟩ ⟨b1,b2,b3,b4,b5⟩
    simp only at b1 b2 b3 b4 b5
    by_cases h8:k<sc.length
    · rw[List.drop_eq_getElem_cons h8,okV,Bool.and_eq_true] at b4
      rw[List.drop_eq_getElem_cons h8,mergeS] at b5
      obtain⟨c,hc⟩:∃c,c=sc[k]:=⟨_,rfl⟩
      rw[← hc] at b4 b5
      have hc':sc[k]=c:=hc.symm
      obtain⟨o,ol,nw,nl⟩:=c
      obtain⟨hs,h6⟩:=b4
      have hs:=stepV_true hs
      have hb:=okV_le _ _ _ _ _ _ h6
      simp only at hs h6 b5 hb
      obtain⟨c1,c2,c3,c4,c5,c6,c7,c8⟩:=hs
      obtain⟨o,rfl⟩:=Int.eq_ofNat_of_zero_le c1.1
      obtain⟨ol,rfl⟩:=Int.eq_ofNat_of_zero_le c2.1
      obtain⟨nw,rfl⟩:=Int.eq_ofNat_of_zero_le c3.1
      obtain⟨nl,rfl⟩:=Int.eq_ofNat_of_zero_le c4.1
      have w1:IntKind.i64.wrap ((o:Int)+(ol:Int))=((o+ol:Nat):Int):=by rw[wrap_in (by omega) (by omega)];push_cast;rfl
      have w2:IntKind.i64.wrap ((nw:Int)+(nl:Int))=((nw+nl:Nat):Int):=by rw[wrap_in (by omega) (by omega)];push_cast;rfl
      have hio:i≤o:=by omega
      have hol:o+ol≤l.length:=by omega
      have hnl:nw+nl≤lines.length:=by omega
      obtain⟨seg,hseg⟩:∃seg,seg=(lines.drop nw).take nl:=⟨_,rfl⟩
      have hsg:List.take nl (List.drop nw (List.map Rep.to lines))=seg.map Rep.to:=by rw[hseg,List.map_take,List.map_drop]
      have hsl':seg.length=nl:=by rw[hseg];simp;omega
      obtain⟨old,hold⟩:∃old,old=oldV l o (o+ol):=⟨_,rfl⟩
      have hod:List.take ol (List.drop o (List.map Rep.to l))=old.map Rep.to:=by rw[hold,oldV,List.map_take,List.map_drop,Nat.add_sub_cancel_left]
      have hodl:old.length=ol:=by rw[hold,oldV];simp;omega
      have hml2:mergeV l lines bit=mergeV l lines bit:=rfl
      have hlen:out.length+(hitV l bit i o).length+ol+nl≤1000000:=by
        have:=congrArg List.length b5
        simp only[List.length_append,Int.toNat_natCast] at this
        rw[show ((o:Int)+(ol:Int)).toNat=o+ol by omega,show ((nw:Int)+(nl:Int)).toNat=nw+nl by omega,← hold] at this
        have e:(newV lines bit nw (nw+nl)).length=nl:=by simp[newV];omega
        omega
      have e1:((o:Int)+(ol:Int)).toNat=o+ol:=by omega
      have e2:((nw:Int)+(nl:Int)).toNat=nw+nl:=by omega
      have e3:min ol (l.length-o)=ol:=by omega
      have e4:min nl (lines.length-nw)=nl:=by omega
      simp[h8,getD_map,hc',hg3,eCallv,eRCall,w1,w2,hsg,hod,e1,e2,e3,e4]
      refine⟨⟨hio,by omega,by omega,by omega⟩,by omega,by unfold room;omega,by omega,?_⟩
      refine vc_lp (σ:=Nat × List MergedT) (fun x=>x.1≤seg.length∧x.2=out++hitV l bit i o++old++newV lines bit nw (nw+x.1)) (fun x=>seg.length-x.1)
        (fun x=>[.any,.d (Rep.to lines),.any,.ref 0 0 0 0,.ref 1 0 0 0,.any,.any,.any,.any,.ref 2 0 0 0,.ref 3 0 0 0,.fn (.func g3) [] [.ref 3 0 0 0,.ref 2 0 0 0,.ref 0 0 0 0,.ref 1 0 0 0],.any,.any,.any,.d (Rep.to sc),.d (.int .i64 sc.length),.d (.int .i64 k),.any,.d (Rep.to seg),.d (.int .i64 nl),.d (.int .i64 x.1),.any])
        (fun x=>[.cells 0 1 [.d (Rep.to l)],.cells 0 1 [.d (.int .u32 bit)],.cells 0 1 [.gr 4 2 (x.2.map Rep.to)],.cells 0 1 [.d (.int .i64 ((o+ol:Nat):Int))],.tip x.2.length]) (0,out++hitV l bit i o++old) (by simp[hsl']) (by simp[hodl,Nat.add_assoc]) ⟨by omega,by simp[newV_self]⟩ ?_
      rintro⟨x,o'⟩ ⟨d1,d2⟩
      simp only at d1 d2
      have hnv:(newV lines bit nw (nw+x)).length≤x:=by have:=newV_len lines bit nw (nw+x);omega
      have hol':o'.length≤1000000:=by rw[d2];simp only[List.length_append];omega
      by_cases d3:x<nl
      · have d4:x<seg.length:=by omega
        have d5:seg[x]=lines[nw+x]:=by simp[hseg]
        simp[d3,d4,getD_map,add1 d4 (by omega)]
        refine⟨by unfold room;omega,Nxt.mk (x+1,o'++[⟨seg[x],bit⟩]) (by simp;omega) (by simp) (by simp) ⟨by simp;omega,?_⟩⟩
        simp only
        have d6:newV lines bit nw (nw+(x+1))=newV lines bit nw (nw+x)++[⟨seg[x],bit⟩]:=by
          unfold newV
          rw[show nw+(x+1)-nw=x+1 by omega,show nw+x-nw=x by omega,take_snoc (by simp;omega),d5]
          simp
        rw[d2,d6]
        simp only[List.append_assoc]
      · have:x=nl:=by omega
        subst this
        simp[add1 h8 (by omega)]
        refine Nxt.mk (k+1,o+ol,nw+x,o') (by simp;omega) (by simp) (by simp) ⟨by simp;omega,hol,hnl,by simpa using h6,?_⟩
        simp only
        rw[d2,← b5]
        simp[hold,e1,e2]
    · have h9:k=sc.length:=by omega
      subst h9
      rw[List.drop_length,mergeS] at b5
      simp[hg3,eCallv,eRCall]
      refine⟨⟨b2,by omega,?_⟩,?_⟩
      · have:=congrArg List.length b5
        simp only[List.length_append] at this
        omega
      · rw[← b5]
        simp
@[simp] def S_lost_Coalesce:List D→Prop × D:=spec1 (α:=List (List Int)) (fun xs=>(∀x,x∈xs→x.length≤1048576)∧xs.length≤1048576) (fun xs=>coalD xs)
theorem ct_lost_Coalesce {P:Program} {f g1:Nat} {G:Gam} (h:CodeOf P f 1 13 [1,2] (x_lost_Coalesce g1)) (hG:GamOk P G) (hg1:G.find g1=some S_lost_merge):Has P f S_lost_Coalesce:=h.has1 hG fun xs hp=>by
  obtain⟨hs,hx⟩:=hp
  by_cases h32:32<xs.length
  · have h32':(32:Int)<xs.length:=by omega
    simp[x_lost_Coalesce,h32',coalD,h32]
  have h32':¬(32:Int)<xs.length:=by omega
  have hfst:∀h:0<xs.length,4096<xs[0].length→coalO xs 0 []=none:=by
    intro h0 h1
    obtain⟨x,r,rfl⟩:=List.exists_cons_of_length_pos h0
    simp only[List.getElem_cons_zero] at h1
    have:longV (mlinesV []) x:=by unfold longV;omega
    simp[coalO,this]
  rcases Nat.eq_zero_or_pos xs.length with h0 | h0
  · have:xs=[]:=List.eq_nil_of_length_eq_zero h0
    subst this
    simp[x_lost_Coalesce,coalD,coalO]
    refine vc_lp (σ:=Unit) (fun _=>True) (fun _=>0) (fun _=>[.any,.any,.any,.d (Rep.to ([]:List MergedT)),.any,.any,.any,.any,.d (Rep.to ([]:List (List Int))),.d (.int .i64 0),.d (.int .i64 0),.any,.any]) (fun _=>[]) () (by simp) (by simp) trivial ?_
    intro _ _
    simp
  by_cases h1:4096<xs[0].length
  · have h1':(4096:Int)<xs[0].length:=by omega
    simp[x_lost_Coalesce,h32',coalD,h32,h0,h1',getD_map,hfst h0 h1]
  have h1':¬(4096:Int)<xs[0].length:=by omega
  simp[x_lost_Coalesce,h32',coalD,h32,h0,h1',getD_map]
  refine vc_lp (σ:=Nat × List MergedT) (fun x=>x.1≤xs.length∧x.2.length≤8192∧coalO (xs.drop x.1) x.1 x.2=coalO xs 0 []) (fun x=>xs.length-x.1)
    (fun x=>[.any,.any,.any,.d (Rep.to x.2),.any,.any,.any,.any,.d (Rep.to xs),.d (.int .i64 xs.length),.d (.int .i64 x.1),.any,.any]) (fun _=>[]) (0,[]) (by simp) (by simp) ⟨by simp,by simp,rfl⟩ ?_
  rintro⟨k,m⟩ ⟨g1,g2,g3⟩
  simp only at g1 g2 g3
  by_cases h2:k<xs.length
  · rw[List.drop_eq_getElem_cons h2,coalO] at g3
    have l1:m.length≤1048576:=by omega
    have l2:=hs xs[k] (List.getElem_mem h2)
    by_cases hL:longV (mlinesV m) xs[k]
    · rw[if_pos hL] at g3
      simp[h2,getD_map,hg1,l1,l2,hL,← g3]
    · have hl':m.length≤4096∧xs[k].length≤4096:=by unfold longV at hL;rw[mlinesV_len] at hL;omega
      have hm:=mergeV_len (l:=m) (lines:=xs[k]) (bitV k) hl'.1 hl'.2
      rw[if_neg hL] at g3
      simp[h2,getD_map,hg1,l1,l2,hL,bitN,add1 h2 (by omega)]
      exact Nxt.mk (k+1,mergeV m xs[k] (bitV k)) (by simp;omega) (by simp) (by simp) ⟨by simp;omega,by simp only;omega,g3⟩
  · have h9:k=xs.length:=by omega
    subst h9
    rw[List.drop_length,coalO] at g3
    simp[← g3]
end Go.AE
namespace Go.AE
def okM (p:Nat) (m:MergedT):Prop:=∃k:Nat,m.parents=(k:Int)∧0<k∧k<2 ^ p
theorem pow_le {p:Nat} (h:p≤32):2 ^ p≤4294967296:=by
  have:(4294967296:Nat)=2 ^ 32:=rfl
  rw[this]
  exact Nat.pow_le_pow_right (by omega) h
theorem okM_old {p:Nat} {m:MergedT} (h:okM p m) (hp:p<32):okM (p+1) m∧hasV p m=false:=by
  obtain⟨k,h1,h2,h3⟩:=h
  have h4:=pow_le (p:=p) (by omega)
  refine⟨⟨k,h1,h2,by rw[Nat.pow_succ];omega⟩,?_⟩
  simp only[hasV,h1,getU_nat (m:=k) (p:=p) (by omega) hp,Nat.testBit_lt_two_pow h3]
  decide
theorem okM_new {p:Nat} (x:Int) (hp:p<32):okM (p+1) ⟨x,bitV p⟩∧hasV p ⟨x,bitV p⟩=true∧∀b:Nat,b<p→hasV b ⟨x,bitV p⟩=false:=by
  have h4:=pow_le (p:=p+1) (by omega)
  have h5:0<2 ^ p:=Nat.pow_pos (by omega)
  rw[Nat.pow_succ] at h4
  refine⟨⟨2 ^ p,bitV_nat hp,h5,by rw[Nat.pow_succ];omega⟩,?_,fun b hb=>?_⟩
  · simp only[hasV,bitV_nat hp,getU_nat (m:=2 ^ p) (p:=p) (by omega) hp,Nat.testBit_two_pow_self]
    decide
  · simp only[hasV,bitV_nat hp,getU_nat (m:=2 ^ p) (p:=b) (by omega) (by omega),Nat.testBit_two_pow_of_ne (show p≠b by omega)]
    decide
theorem okM_hit {p:Nat} {m:MergedT} (h:okM p m) (hp:p<32):okM (p+1) ⟨m.line,orU m.parents (bitV p)⟩∧hasV p ⟨m.line,orU m.parents (bitV p)⟩=true∧∀b:Nat,b<p→hasV b ⟨m.line,orU m.parents (bitV p)⟩=hasV b m:=by
  obtain⟨k,h1,h2,h3⟩:=h
  have h4:=pow_le (p:=p+1) (by omega)
  have h5:0<2 ^ p:=Nat.pow_pos (by omega)
  rw[Nat.pow_succ] at h4
  have h6:k ||| 2 ^ p<2 ^ (p+1):=Nat.or_lt_two_pow (by rw[Nat.pow_succ];omega) (by rw[Nat.pow_succ];omega)
  have e:orU m.parents (bitV p)=((k ||| 2 ^ p:Nat):Int):=by rw[h1,bitV_nat hp,orU_nat (by omega) (by omega)]
  have h7:k≤k ||| 2 ^ p:=Nat.left_le_or
  rw[Nat.pow_succ] at h6
  refine⟨⟨k ||| 2 ^ p,e,by omega,by rw[Nat.pow_succ];exact h6⟩,?_,fun b hb=>?_⟩
  · simp only[hasV,e,getU_nat (m:=k ||| 2 ^ p) (p:=p) (by omega) hp,Nat.testBit_or,Nat.testBit_two_pow_self,Bool.or_true]
    decide
  · simp only[hasV]
    rw[e,getU_nat (m:=k ||| 2 ^ p) (p:=b) (by omega) (by omega),h1,getU_nat (m:=k) (p:=b) (by omega) (by omega),Nat.testBit_or,Nat.testBit_two_pow_of_ne (show p≠b by omega),Bool.or_false]
def prB (b:Nat) (l:List MergedT):List Int:=mlinesV (l.filter (hasV b))
theorem prB_app (b:Nat) (l m:List MergedT):prB b (l++m)=prB b l++prB b m:=by simp[prB,mlinesV]
theorem prB_none {b:Nat} {l:List MergedT} (h:∀m,m∈l→hasV b m=false):prB b l=[]:=by
  have:l.filter (hasV b)=[]:=List.filter_eq_nil_iff.2 fun m hm=>by rw[h m hm];simp
  simp[prB,this,mlinesV]
theorem prB_all {b:Nat} {l:List MergedT} (h:∀m,m∈l→hasV b m=true):prB b l=mlinesV l:=by
  have:l.filter (hasV b)=l:=List.filter_eq_self.2 h
  simp[prB,this]
theorem newV_mem {lines:List Int} {bit:Int} {i e:Nat} {m:MergedT} (h:m∈newV lines bit i e):∃x,m=⟨x,bit⟩:=by
  simp only[newV,List.mem_map] at h
  obtain⟨x,_,rfl⟩:=h
  exact⟨x,rfl⟩
theorem oldV_mem {l:List MergedT} {i e:Nat} {m:MergedT} (h:m∈oldV l i e):m∈l:=List.mem_of_mem_drop (List.mem_of_mem_take h)
theorem newV_lines (lines:List Int) (bit:Int) (i e:Nat):mlinesV (newV lines bit i e)=(lines.drop i).take (e-i):=by
  have:(MergedT.line ∘ fun x=>(⟨x,bit⟩:MergedT))=id:=rfl
  simp only[mlinesV,newV,List.map_map,this,List.map_id]
theorem hitV_one {l:List MergedT} {bit:Int} {i:Nat} (h:i<l.length):hitV l bit i (i+1)=[⟨l[i].line,orU l[i].parents bit⟩]:=by rw[hitV_step (by omega) h,hitV_self]
theorem joinV_ok {l:List MergedT} {lines:List Int} {p:Nat} (hp:p<32) (hl:∀m,m∈l→okM p m):∀(q:List SpanT) (i j:Nat),i≤l.length→j≤lines.length→ascB q i j l.length lines.length=true →
    (∀s,s∈q→(mlinesV l).getD s.fr.toNat 0=lines.getD s.to.toNat 0) →
    (∀m,m∈joinV l lines (bitV p) q i j→okM (p+1) m)∧(∀b,b<p→prB b (joinV l lines (bitV p) q i j)=prB b (l.drop i))∧prB p (joinV l lines (bitV p) q i j)=lines.drop j∧l.length≤(joinV l lines (bitV p) q i j).length+i
  | [],i,j,hi,hj,_,_=>by
    have e:oldV l i l.length=l.drop i:=by unfold oldV;exact List.take_of_length_le (by simp)
    have en:mlinesV (newV lines (bitV p) j lines.length)=lines.drop j:=by rw[newV_lines,List.take_of_length_le (by simp)]
    simp only[joinV,e]
    refine⟨fun m hm=>?_,fun b hb=>?_,?_,by simp;omega⟩
    · rcases List.mem_append.1 hm with hm | hm
      · exact (okM_old (hl m (List.mem_of_mem_drop hm)) hp).1
      · obtain⟨x,rfl⟩:=newV_mem hm
        exact (okM_new x hp).1
    · rw[prB_app,prB_none (l:=newV _ _ _ _) fun m hm=>?_,List.append_nil]
      obtain⟨x,rfl⟩:=newV_mem hm
      exact (okM_new x hp).2.2 b hb
    · rw[prB_app,prB_none fun m hm=>(okM_old (hl m (List.mem_of_mem_drop hm)) hp).2,List.nil_append,prB_all fun m hm=>?_,en]
      obtain⟨x,rfl⟩:=newV_mem hm
      exact (okM_new x hp).2.1
  | s::q,i,j,hi,hj,ha,hm=>by
    simp only[ascB,Bool.and_eq_true,decide_eq_true_eq] at ha
    obtain⟨⟨⟨⟨k1,k2⟩,k3⟩,k4⟩,k5⟩:=ha
    have hms:=hm s (by simp)
    obtain⟨fr,to⟩:=s
    simp only at k1 k2 k3 k4 k5 hms
    obtain⟨fr,rfl⟩:=Int.eq_ofNat_of_zero_le (show 0≤fr by omega)
    obtain⟨to,rfl⟩:=Int.eq_ofNat_of_zero_le (show 0≤to by omega)
    have c1:((fr:Int)+1)=((fr+1:Nat):Int):=by push_cast;rfl
    have c2:((to:Int)+1)=((to+1:Nat):Int):=by push_cast;rfl
    rw[c1,c2] at k5
    have hf:fr<l.length:=by omega
    have ht:to<lines.length:=by omega
    obtain⟨i1,i2,i3,i4⟩:=joinV_ok hp hl q (fr+1) (to+1) (by omega) (by omega) k5 fun s hs=>hm s (by simp[hs])
    have hok:=okM_hit (hl l[fr] (List.getElem_mem hf)) hp
    simp only[Int.toNat_natCast] at hms
    have hms':l[fr].line=lines[to]:=by simpa [List.getD,mlinesV,hf,ht] using hms
    simp only[joinV,Int.toNat_natCast,hitV_one hf]
    have eo:l.drop i=oldV l i fr++l[fr]::l.drop (fr+1):=by
      rw[← List.drop_eq_getElem_cons hf]
      unfold oldV
      rw[show l.drop fr=(l.drop i).drop (fr-i) by rw[List.drop_drop,show i+(fr-i)=fr by omega],List.take_append_drop]
    have en:lines.drop j=mlinesV (newV lines (bitV p) j to)++lines[to]::lines.drop (to+1):=by
      rw[newV_lines,← List.drop_eq_getElem_cons ht,show lines.drop to=(lines.drop j).drop (to-j) by rw[List.drop_drop,show j+(to-j)=to by omega],List.take_append_drop]
    refine⟨fun m hm=>?_,fun b hb=>?_,?_,?_⟩
    · simp only[List.mem_append,List.mem_singleton] at hm
      rcases hm with ((hm | hm) | rfl) | hm
      · exact (okM_old (hl m (oldV_mem hm)) hp).1
      · obtain⟨x,rfl⟩:=newV_mem hm
        exact (okM_new x hp).1
      · exact hok.1
      · exact i1 m hm
    · rw[prB_app,prB_app,prB_app,i2 b hb,prB_none (l:=newV _ _ _ _) fun m hm=>?_,List.append_nil,eo]
      · rw[show l[fr]::l.drop (fr+1)=[l[fr]]++l.drop (fr+1) from rfl,prB_app,prB_app,List.append_assoc]
        congr 2
        simp only[prB,List.filter_cons,List.filter_nil,hok.2.2 b hb]
        split <;> rfl
      · obtain⟨x,rfl⟩:=newV_mem hm
        exact (okM_new x hp).2.2 b hb
    · rw[prB_app,prB_app,prB_app,i3,prB_none (l:=oldV _ _ _) fun m hm=>(okM_old (hl m (oldV_mem hm)) hp).2,List.nil_append,prB_all (l:=newV _ _ _ _) fun m hm=>?_,en,List.append_assoc]
      · congr 1
        have h9:=hok.2.1
        rw[hms'] at h9
        simp only[prB,hms',List.filter_cons,List.filter_nil,h9,if_true,mlinesV,List.map_cons,List.map_nil]
        rfl
      · obtain⟨x,rfl⟩:=newV_mem hm
        exact (okM_new x hp).2.1
    · have:(oldV l i fr).length=fr-i:=by simp[oldV];omega
      simp only[List.length_append,List.length_cons,List.length_nil,this]
      omega
theorem mergeV_ok {l:List MergedT} {lines:List Int} {p:Nat} (hp:p<32) (hl:∀m,m∈l→okM p m) :
    (∀m,m∈mergeV l lines (bitV p)→okM (p+1) m)∧(∀b,b<p→prB b (mergeV l lines (bitV p))=prB b l)∧prB p (mergeV l lines (bitV p))=lines∧l.length≤(mergeV l lines (bitV p)).length:=by
  have hw:=walkV_asc (mlinesV l) lines 0 0
  simp only[Int.zero_add,mlinesV_len] at hw
  have:=joinV_ok (lines:=lines) hp hl (walkV (mlinesV l) lines 0 0) 0 0 (by omega) (by omega) hw fun s hs=>by
    have:=walkV_mem (mlinesV l) lines 0 0 s hs
    simpa using this
  rw[mergeV_join]
  simpa using this
structure CoalOk (ys:List (List Int)) (l:List MergedT):Prop where
  ok:∀m,m∈l→okM ys.length m
  pr:∀b (h:b<ys.length),prB b l=ys[b]
  len:l.length≤sumL ys
theorem sumL_app (a b:List (List Int)):sumL (a++b)=sumL a+sumL b:=by simp[sumL]
theorem coalO_ok:∀(xs ys:List (List Int)) (l:List MergedT),ys.length+xs.length≤32→sumL ys+sumL xs≤4096→CoalOk ys l→∃m,coalO xs ys.length l=some m∧CoalOk (ys++xs) m
  | [],ys,l,_,_,h=>⟨l,rfl,by rw[List.append_nil];exact h⟩
  | x::xs,ys,l,h1,h2,h=>by
    have e:sumL (x::xs)=x.length+sumL xs:=by simp[sumL]
    have hlen:=h.len
    simp only[List.length_cons] at h1
    have hl:¬longV (mlinesV l) x:=by unfold longV;rw[mlinesV_len];omega
    obtain⟨k1,k2,k3,k4⟩:=mergeV_ok (lines:=x) (p:=ys.length) (by omega) h.ok
    have hm:=mergeV_len (l:=l) (lines:=x) (bitV ys.length) (by omega) (by omega)
    have hs:sumL [x]=x.length:=by simp[sumL]
    obtain⟨m,m1,m2⟩:=coalO_ok xs (ys++[x]) (mergeV l x (bitV ys.length)) (by simp;omega) (by rw[sumL_app,hs];omega) ⟨by simpa using k1,fun b hb=>by
      simp at hb
      by_cases hb2:b<ys.length
      · rw[List.getElem_append_left hb2,← h.pr b hb2]
        exact k2 b hb2
      · have:b=ys.length:=by omega
        subst this
        simp[k3],by rw[sumL_app,hs];omega⟩
    refine⟨m,?_,by simpa using m2⟩
    simp only[coalO,hl,if_false]
    simpa using m1
def placeV (l:List Str) (x:Str):Int:=match l.findIdx? (· == x) with | some i=>(i:Int) | none=>-1
theorem placeV_some {l:List Str} {x:Str} {i:Nat} (h:i<l.length) (h1:l[i]=x) (h2:∀k (h:k<l.length),k<i→l[k]≠x):placeV l x=i:=by
  have:l.findIdx? (· == x)=some i:=by
    rw[List.findIdx?_eq_some_iff_getElem]
    exact⟨h,by simpa using h1,fun j hj=>by simpa using h2 j (by omega) hj⟩
  simp[placeV,this]
theorem placeV_none {l:List Str} {x:Str} (h2:∀k (h:k<l.length),l[k]≠x):placeV l x=-1:=by
  have:l.findIdx? (· == x)=none:=by
    rw[List.findIdx?_eq_none_iff]
    intro y hy
    obtain⟨k,hk,rfl⟩:=List.getElem_of_mem hy
    simpa using h2 k hk
  simp[placeV,this]
def addV (out:List Str) (x:Str):List Str:=if x∈out then out else out++[x]
def namesV (l:List (List Str)):List Str:=l.flatten.foldl addV []
theorem addV_len (out:List Str) (x:Str):(addV out x).length≤out.length+1:=by
  unfold addV;split <;> simp
theorem fold_len (xs:List Str):∀out:List Str,(xs.foldl addV out).length≤out.length+xs.length:=by
  induction xs with
  | nil=>intro out;simp
  | cons x xs ih=>intro out;have:=ih (addV out x);have:=addV_len out x;simp;omega
theorem take_flat_le {α:Type} (l:List (List α)) (i:Nat):(l.take i).flatten.length≤l.flatten.length:=by
  have:l.flatten=(l.take i).flatten++(l.drop i).flatten:=by rw[← List.flatten_append,List.take_append_drop]
  rw[this];simp
theorem mem_flat_le {α:Type} {l:List (List α)} {i:Nat} (h:i<l.length):(l.take i).flatten.length+l[i].length≤l.flatten.length:=by
  have h1:=take_flat_le l (i+1)
  rw[take_snoc h] at h1
  simpa only[List.flatten_append,List.length_append,List.flatten_cons,List.flatten_nil,List.append_nil] using h1
def part (l:List (List Str)) (i j:Nat):List Str:=((l.take i).flatten++(l.getD i []).take j).foldl addV []
theorem part_step {l:List (List Str)} {i j:Nat} (h:i<l.length) (hj:j<l[i].length):part l i (j+1)=addV (part l i j) l[i][j]:=by
  unfold part
  have:l.getD i []=l[i]:=by simp[List.getD,h]
  rw[this,take_snoc hj,← List.append_assoc,List.foldl_append]
  rfl
theorem part_next {l:List (List Str)} {i:Nat} (h:i<l.length):part l i l[i].length=part l (i+1) 0:=by
  unfold part
  have:l.getD i []=l[i]:=by simp[List.getD,h]
  rw[this,take_snoc h]
  simp only[List.flatten_append,List.flatten_cons,List.flatten_nil,List.append_nil,List.take_zero,List.take_length]
theorem part_end (l:List (List Str)):part l l.length 0=namesV l:=by simp[part,namesV]
theorem part_len {l:List (List Str)} {i j:Nat} (h:i<l.length) (hj:j≤l[i].length):(part l i j).length≤l.flatten.length:=by
  have h1:=fold_len ((l.take i).flatten++(l.getD i []).take j) []
  have:l.getD i []=l[i]:=by simp[List.getD,h]
  have h2:=mem_flat_le h
  rw[this] at h1
  simp only[List.length_append,List.length_take,List.length_nil] at h1
  unfold part
  rw[this]
  omega
def smallL (l:List (List Str)):Prop:=l.length≤1048576∧l.flatten.length≤1048576
def idsV (l:List (List Str)):List (List Int):=l.map fun x=>x.map (placeV (namesV l))
theorem elem_flat_le {α:Type} {l:List (List α)} {i:Nat} (h:i<l.length):l[i].length≤l.flatten.length:=by
  have:=mem_flat_le h;omega
def tabV:Nat→List Str→List (D × D)
  | _,[]=>[]
  | k,x::r=>(.str x,.int .i64 k)::tabV (k+1) r
theorem tabV_snoc (x:Str):∀(k:Nat) (l:List Str),tabV k (l++[x])=tabV k l++[(.str x,.int .i64 ((k+l.length:Nat):Int))]:=by
  intro k l
  induction l generalizing k with
  | nil=>simp[tabV]
  | cons y l ih =>
    simp only[List.cons_append,tabV,ih,List.length_cons]
    rw[show k+1+l.length=k+(l.length+1) by omega]
theorem placeV_cons (y:Str) (l:List Str) (x:Str):placeV (y::l) x=if y=x then 0 else if x∈l then placeV l x+1 else -1:=by
  by_cases h:y=x
  · rw[if_pos h];exact placeV_some (i:=0) (by simp) h (fun k _ hk=>by omega)
  · rw[if_neg h]
    by_cases hx:x∈l
    · rw[if_pos hx]
      unfold placeV
      rw[List.findIdx?_cons]
      have:(y == x)=false:=by simpa using h
      simp only[this]
      cases hf:l.findIdx? (· == x) with
      | none =>
        rw[List.findIdx?_eq_none_iff] at hf
        exact absurd (hf x hx) (by simp)
      | some i=>simp
    · rw[if_neg hx]
      refine placeV_none (fun k hk=>?_)
      cases k with
      | zero=>simpa using h
      | succ k =>
        simp only[List.length_cons,List.getElem_cons_succ] at hk ⊢
        intro he
        exact hx (by rw[← he];exact List.getElem_mem _)
theorem mlook_tab (x:Str):∀(k:Nat) (l:List Str),mlook (.str x) (tabV k l)=if x∈l then some (.int .i64 (k+placeV l x)) else none:=by
  intro k l
  induction l generalizing k with
  | nil=>rfl
  | cons y l ih =>
    simp only[tabV,mlook,keyEq,decide_eq_true_eq,ih,placeV_cons,List.mem_cons]
    by_cases h:x=y
    · subst h;simp
    · have h2:¬y=x:=fun e=>h e.symm
      simp only[h,h2,if_false,false_or]
      by_cases hx:x∈l
      · simp only[hx,if_true,Option.some.injEq,D.int.injEq,true_and]
        omega
      · simp[hx]
theorem mset_tab {x:Str} (v:D):∀(k:Nat) (l:List Str),x ∉ l→mset (.str x) v (tabV k l)=tabV k l++[(.str x,v)]:=by
  intro k l
  induction l generalizing k with
  | nil=>intro _;rfl
  | cons y l ih =>
    intro h
    simp only[List.mem_cons,not_or] at h
    simp[tabV,mset,keyEq,h.1,ih (k+1) h.2]
theorem keys_tab (x:Str) (k:Nat) (l:List Str):keysOk 1 (.str x) (tabV k l):=by
  refine⟨rfl,?_⟩
  induction l generalizing k with
  | nil=>intro e he;simp[tabV] at he
  | cons y l ih =>
    intro e he
    simp only[tabV,List.mem_cons] at he
    rcases he with rfl | he
    · exact⟨rfl,trivial⟩
    · exact ih (k+1) e he
def tabS (v:Nat) (nil:Bool) (names:List Str):Store :=
  if nil=true then [.cells v 2 [.agg [.mp 1,.d .nilsl]],.map [],.res] else [.cells v 2 [.agg [.mp 1,.gr 2 1 (names.map Rep.to)]],.map (tabV 0 names),.tip names.length]
theorem id_old {P:Program} {f:Nat} (hc:CodeOf P f 2 6 [2] x_intern_table_id) {v:Nat} {names:List Str} {x:Str} (h:x∈names):RCalls P f [.ref 0 v 0 0,.d (.str x)] (tabS v false names) (.d (.int .i64 (placeV names x))) (tabS v false names):=by
  refine hc.rcalls (GamOk.nil _) rfl ?_
  simp[x_intern_table_id,tabS,startA,mlook_tab,h,keys_tab]
  exact⟨by simp[resPre],[0,1,2],rfl,⟨by decide,by simp,rfl⟩,fun k hk=>.inl (by match k,hk with | 0,_=>rfl | 1,_=>rfl | 2,_=>rfl),rfl,rfl,rfl⟩
theorem id_new {P:Program} {f:Nat} (hc:CodeOf P f 2 6 [2] x_intern_table_id) {v:Nat} {names:List Str} {x:Str} (h:x ∉ names) (hn:names.length≤1048576):RCalls P f [.ref 0 v 0 0,.d (.str x)] (tabS v false names) (.d (.int .i64 names.length)) (tabS v false (names++[x])):=by
  refine hc.rcalls (GamOk.nil _) rfl ?_
  simp[x_intern_table_id,tabS,startA,mlook_tab,h,keys_tab,mset_tab]
  refine⟨by unfold room;omega,by simp[resPre],[0,1,2],rfl,⟨by decide,by simp,rfl⟩,fun k hk=>.inl (by match k,hk with | 0,_=>rfl | 1,_=>rfl | 2,_=>rfl),?_,rfl,rfl⟩
  rw[tabV_snoc]
  simp
theorem id_nil {P:Program} {f:Nat} (hc:CodeOf P f 2 6 [2] x_intern_table_id) {v:Nat} {x:Str}:RCalls P f [.ref 0 v 0 0,.d (.str x)] (tabS v true []) (.d (.int .i64 0)) (tabS v false [x]):=by
  refine hc.rcalls (GamOk.nil _) rfl ?_
  simp[x_intern_table_id,tabS,startA,mlook,mset]
  exact⟨⟨rfl,fun e he=>by simp at he⟩,by unfold room;omega,by simp[resPre],[0,1,3],rfl,⟨by decide,by simp,rfl⟩,fun k hk=>(by match k,hk with | 0,_=>exact .inl rfl | 1,_=>exact .inl rfl | 2,_=>exact .inr rfl),rfl,rfl,rfl⟩
def idRen (args:List A) (s:Store) (nw:Nat):List Nat :=
  match args with
  | [.ref t _ 0 0,.d (.str _)]=>match s.getD t .dead with
    | .cells _ 2 [.agg [.mp m,.gr l 1 _]]=>[t,m,l]
    | .cells _ 2 [.agg [.mp m,.d .nilsl]]=>[t,m,nw]
    | _=>[t]
  | _=>[]
def idSpec (args:List A) (s0:Store):Prop × Store × A :=
  match args,s0 with
  | [.ref 0 v 0 0,.d (.str x)],[.cells v' 2 [.agg [.mp 1,.d .nilsl]],.map [],.res]=>(v=v',tabS v false [x],.d (.int .i64 0))
  | [.ref 0 v 0 0,.d (.str x)],[.cells v' 2 [.agg [.mp 1,.gr 2 1 ns]],.map es,.tip n]=>match ofAll (Rep.of (α:=Str)) ns with
    | some names=>(v=v'∧ns=names.map Rep.to∧es=tabV 0 names∧n=names.length∧names.length≤1048576,tabS v false (addV names x),.d (.int .i64 (placeV (addV names x) x)))
    | none=>(False,[],.any)
  | _,_=>(False,[],.any)
theorem placeV_snoc {names:List Str} {x:Str} (h:x ∉ names):placeV (names++[x]) x=names.length:=by
  refine placeV_some (i:=names.length) (by simp) (by simp) (fun k hk hlt he=>h ?_)
  rw[List.getElem_append_left hlt] at he
  rw[← he]
  exact List.getElem_mem _
abbrev R_intern_table_id:RSpec:=⟨idRen,idSpec⟩
theorem ct_intern_table_id {P:Program} {f:Nat} (hc:CodeOf P f 2 6 [2] x_intern_table_id):RSpec.Ok P f R_intern_table_id:=by
  refine⟨hc.call,?_,?_⟩
  · intro args s s2 nw h
    simp only[idRen] at h ⊢
    split at h
    · rename_i t u x
      have ht:s2.getD t .dead=s.getD t .dead:=by
        apply h
        split <;> simp
      simp only[ht]
    · rfl
  · intro args s0 hp
    simp only[idSpec] at hp ⊢
    split at hp
    · rename_i v x v'
      simp only at hp
      subst hp
      exact id_nil hc
    · rename_i v x v' ns es n
      split at hp
      · rename_i names hn
        obtain⟨rfl,rfl,rfl,rfl,h5⟩:=hp
        simp only[ofAll_to]
        by_cases hx:x∈names
        · have e:addV names x=names:=by simp[addV,hx]
          rw[e]
          exact id_old hc hx
        · have e:addV names x=names++[x]:=by simp[addV,hx]
          rw[e,placeV_snoc hx]
          exact id_new hc hx h5
      · exact hp.elim
    · exact hp.elim
theorem eR_id {G:Gam} {f:Nat} (hf:G.findR f=some R_intern_table_id) {s:Store} {nw t m l v:Nat} {names:List Str} {x:Str} (h1:s.getD t .dead=.cells v 2 [.agg [.mp m,.gr l 1 (names.map Rep.to)]]) (h2:s.getD m .dead=.map (tabV 0 names))
    (h3:s.getD l .dead=.tip names.length) (h4:t≠m∧t≠l∧m≠l) (h5:t<s.length∧m<s.length∧l<s.length) (h6:names.length≤1048576) :
    eRCall G s nw f [.ref t v 0 0,.d (.str x)]=⟨True,[(t,.cells v 2 [.agg [.mp m,.gr l 1 ((addV names x).map Rep.to)]]),(m,.map (tabV 0 (addV names x))),(l,.tip (addV names x).length)],.d (.int .i64 (placeV (addV names x) x))⟩:=by
  obtain⟨n1,n2,n3⟩:=h4
  obtain⟨l1,l2,l3⟩:=h5
  have i0:idxIn [t,m,l] t=0:=by simp[idxIn,List.idxOf?,List.findIdx?_cons]
  have i1:idxIn [t,m,l] m=1:=by simp[idxIn,List.idxOf?,List.findIdx?_cons,n1]
  have i2:idxIn [t,m,l] l=2:=by simp[idxIn,List.idxOf?,List.findIdx?_cons,n2,n3]
  unfold eRCall
  rw[hf]
  have hr:idRen [.ref t v 0 0,.d (.str x)] s nw=[t,m,l]:=by simp only[idRen,h1]
  simp only[hr,List.map_cons,List.map_nil,h1,h2,h3]
  simp[A.ren,A.rens,Ob.ren,i0,i1,i2,h1,h2,h3,idSpec,ofAll_to,h6,n1,n2,n3,l1,l2,l3,tabS]
theorem fold_pre (xs:List Str):∀out:List Str,∃r,xs.foldl addV out=out++r:=by
  induction xs with
  | nil=>intro out;exact⟨[],by simp⟩
  | cons x xs ih =>
    intro out
    obtain⟨r,h⟩:=ih (addV out x)
    unfold addV at h ⊢
    split at h
    · rename_i hx;exact⟨r,by simp[hx,h]⟩
    · rename_i hx;exact⟨x::r,by simp[hx,h]⟩
theorem placeV_app {a b:List Str} {x:Str} (h:x∈a):placeV (a++b) x=placeV a x:=by
  unfold placeV
  rw[List.findIdx?_append]
  have:(a.findIdx? (· == x)).isSome=true:=by
    rw[List.findIdx?_isSome];simpa using h
  cases hf:a.findIdx? (· == x) with
  | none=>rw[hf] at this;simp at this
  | some i=>simp
theorem mem_addV (out:List Str) (x:Str):x∈addV out x:=by unfold addV;split <;> simp_all
theorem place_part {l:List (List Str)} {i j:Nat} (h:i<l.length) (hj:j<l[i].length):placeV (addV (part l i j) l[i][j]) l[i][j]=placeV (namesV l) l[i][j]:=by
  have h1:l.flatten=((l.take i).flatten++l[i].take (j+1))++(l[i].drop (j+1)++(l.drop (i+1)).flatten):=by
    conv=>lhs;rw[← List.take_append_drop i l,List.drop_eq_getElem_cons h]
    simp only[List.flatten_append,List.flatten_cons,List.append_assoc]
    conv=>lhs;rw[← List.take_append_drop (j+1) l[i]]
    simp only[List.append_assoc]
  have h2:namesV l=(l[i].drop (j+1)++(l.drop (i+1)).flatten).foldl addV (part l i (j+1)):=by
    unfold namesV part
    rw[h1,List.foldl_append]
    have:l.getD i []=l[i]:=by simp[List.getD,h]
    rw[this]
  obtain⟨r,h3⟩:=fold_pre (l[i].drop (j+1)++(l.drop (i+1)).flatten) (part l i (j+1))
  rw[h2,h3,part_step h hj,placeV_app (mem_addV _ _)]
@[simp] def S_intern_number:List D→Prop × D:=spec1 (α:=List (List Str)) smallL (fun l=>.tup [Rep.to (idsV l),Rep.to (namesV l)])
theorem ct_intern_number {P:Program} {f g:Nat} {G:Gam} (h:CodeOf P f 1 16 [1,2] (x_intern_number g)) (hG:GamOk P G) (hg:G.findR g=some R_intern_table_id):Has P f S_intern_number:=h.has1 hG fun l hp=>by
  obtain⟨h,h0⟩:=hp
  simp[x_intern_number]
  refine⟨by unfold room;omega,?_⟩
  obtain⟨Tf,hT⟩:∃Tf:Nat→List A,∀i,Tf i=[.any,.any,.any,.ref 0 0 0 0,.own 2 0 0 l.length,.any,.any,.any,.d (Rep.to l),.d (.int .i64 l.length),.d (.int .i64 i),.any,.any,.any,.any,.any]:=⟨_,fun _=>rfl⟩
  obtain⟨out,ho⟩:∃out:Nat→List A,∀i,out i=((idsV l).take i).map (fun x=>.d (Rep.to x))++List.replicate (l.length-i) (.d .nilsl):=⟨_,fun _=>rfl⟩
  obtain⟨sf,hs⟩:∃sf:Nat→Store,∀i,sf i=[.cells 0 2 [.agg [.mp 1,.gr 3 1 ((part l i 0).map Rep.to)]],.map (tabV 0 (part l i 0)),.cells 0 1 (out i),.tip (part l i 0).length]:=⟨_,fun _=>rfl⟩
  have hil:(idsV l).length=l.length:=by simp[idsV]
  have hol:∀i,i≤l.length→(out i).length=l.length:=by intro i hi;rw[ho];simp[hil];omega
  have hof:∀i,∀x,x∈out i→x.fits 1=true:=by
    intro i x hx
    rw[ho] at hx
    rcases List.mem_append.1 hx with hx | hx
    · obtain⟨y,_,rfl⟩:=List.mem_map.1 hx
      rfl
    · rw[(List.mem_replicate.1 hx).2]
      rfl
  have hou5:∀i,∀x,x∈out i→∀n,x.under n=true:=by
    intro i x hx n
    rw[ho] at hx
    rcases List.mem_append.1 hx with hx | hx
    · obtain⟨y,_,rfl⟩:=List.mem_map.1 hx
      rfl
    · rw[(List.mem_replicate.1 hx).2]
      rfl
  have hoi:∀i,i<l.length→(out i).getD i .any=.d .nilsl:=by
    intro i hi
    rw[ho]
    have e:(((idsV l).take i).map (fun x=>A.d (Rep.to x))).length=i:=by simp[hil];omega
    rw[List.getD,List.getElem?_append_right (by omega),e]
    have:0<l.length-i:=by omega
    simp[this]
  have hos:∀i (hi:i<l.length),(out i).set i (.d (.sl 1 ((l[i].map (placeV (namesV l))).map Rep.to)))=out (i+1):=by
    intro i hi
    have e:(((idsV l).take i).map (fun x=>A.d (Rep.to x))).length=i:=by simp[hil];omega
    rw[ho,ho,List.set_append,if_neg (by omega),e,Nat.sub_self,show l.length-i=(l.length-(i+1))+1 by omega,List.replicate_succ,List.set_cons_zero,take_snoc (by omega),List.map_append]
    simp[idsV]
  refine vc_ghostR (σ:=Nat) (fun i=>i≤l.length) (fun i=>l.length-i) Tf sf 0 ⟨?_,by omega⟩ ?_
  · rw[hT,hs,ho]
    refine Re.norm (s':=[.cells 0 2 [.agg [.mp 1,.gr 3 1 []]],.map [],.cells 0 1 (List.replicate l.length (.d .nilsl))]) [false,false,false,true,true,false,false,false,true,true,true,false,false,false,false,false] [1,0,2] [.tip 0] (by simp) ⟨by decide,by simp,?_⟩ (by decide) (by simp) ?_ ?_ ?_ ?_
    · simp[pickS]
    · simp 
    · simp 
    · simp[pickS]
      exact .cellsL (by simp;exact Wk.fresh _ _ _ 0 rfl)
    · simp[part,tabV]
  · intro i hi
    rw[hT,hs]
    simp
    refine⟨fun h1=>?_,fun h1=>?_⟩
    · simp[getD_map,h1]
      obtain⟨T2,hT2⟩:∃Tf:Nat→List A,∀j,Tf j=[.any,.any,.any,.ref 0 0 0 0,.own 2 0 0 l.length,.d (.int .i64 i),.any,.any,.d (Rep.to l),.d (.int .i64 l.length),.d (.int .i64 i),.any,.d (Rep.to l[i]),.d (.int .i64 l[i].length),.d (.int .i64 j),.any]:=⟨_,fun _=>rfl⟩
      obtain⟨row,hrow⟩:∃row:Nat→List Int,∀j,row j=(l[i].take j).map (placeV (namesV l)):=⟨_,fun _=>rfl⟩
      obtain⟨s2,hs2⟩:∃sf:Nat→Store,∀j,sf j=[.cells 0 2 [.agg [.mp 1,.gr 3 1 ((part l i j).map Rep.to)]],.map (tabV 0 (part l i j)),.cells 0 1 ((out i).set i (.gr 4 1 ((row j).map Rep.to))),.tip (part l i j).length,.tip j]:=⟨_,fun _=>rfl⟩
      refine vc_ghostR (σ:=Nat) (fun j=>j≤l[i].length) (fun j=>l[i].length-j) T2 s2 0 ⟨?_,by omega⟩ ?_
      · rw[hT2,hs2]
        refine Re.wn (s':=[.cells 0 2 [.agg [.mp 1,.gr 3 1 ((part l i 0).map Rep.to)]],.map (tabV 0 (part l i 0)),.cells 0 1 ((out i).set i (.gr 4 1 [])),.tip (part l i 0).length]) [false,false,false,true,true,true,false,false,true,true,true,false,true,true,true] [.tip 0] (by simp) (by omega) (by simp) ?_ (by simp[hrow])
        simp
        refine .cells (.set (hof i) rfl ?_)
        rw[hoi i h1]
        simp
        exact .fresh _ _ _ 0 rfl
      · intro j hj
        rw[hT2,hs2]
        simp
        refine⟨fun h2=>?_,fun h2=>?_⟩
        · have hpl:=part_len (l:=l) h1 (j:=j) (by omega)
          simp[getD_map,h2,hol i hi,h1]
          rw[eR_id hg (t:=0) (m:=1) (l:=3) (names:=part l i j) (by simp) (by simp) (by simp) (by simp) (by simp) (by omega)]
          simp[hol i hi,h1,pairsOk,disj,add1 h2 (by have:=elem_flat_le h1;omega)]
          have hrl:(row j).length=j:=by rw[hrow];simp;omega
          refine⟨⟨hrl.symm,by rw[hrl];have:=elem_flat_le h1;unfold room;omega⟩,j+1,by omega,?_,by omega⟩
          rw[hT2,hs2,part_step h1 h2]
          refine Re.wf _ [false,false,false,true,true,true,false,false,true,true,true,false,true,true,true] 5 (by omega) (by simp) (WkS.refl _ _ _) ?_ ?_ ?_
          · right
            simp
            intro x hx
            rcases List.mem_or_eq_of_mem_set hx with hx | hx
            · exact hou5 i x hx _
            · rw[hx];rfl
          · simp
          · have hr:(row (j+1)).map Rep.to=(row j).map Rep.to++[D.int .i64 (placeV (namesV l) l[i][j])]:=by rw[hrow,hrow,take_snoc h2];simp only[List.map_append,List.map_cons,List.map_nil,to_int]
            rw[place_part h1 h2,hr]
            simp only[List.take_succ_cons,List.take_zero]
        · have h3:j=l[i].length:=by omega
          refine⟨i+1,by omega,?_,by omega⟩
          subst h3
          rw[hT,hs,← hos i h1,part_next h1,hrow,List.take_length]
          refine Re.wf [.cells 0 2 [.agg [.mp 1,.gr 3 1 ((part l (i+1) 0).map Rep.to)]],.map (tabV 0 (part l (i+1) 0)),.cells 0 1 ((out i).set i (.d (.sl 1 ((l[i].map (placeV (namesV l))).map Rep.to)))),.tip (part l (i+1) 0).length,.tip l[i].length] [false,false,false,true,true,false,false,false,true,true,true,false,false,false,false] 4 (by omega) (by simp) ?_ ?_ ?_ ?_
          · simp only[WkS_cons,WkO_refl,WkS_nil,and_true,true_and]
            exact .cells (.setset (hof i) rfl (by simp only[acells_gr,acells_dsl,WkL_cons,Wk_gr,WkL_nil,and_true]))
          · right
            simp
            intro x hx
            rcases List.mem_or_eq_of_mem_set hx with hx | hx
            · exact hou5 i x hx _
            · rw[hx];rfl
          · simp[add1 h1 (by omega)]
          · simp
    · have h2:i=l.length:=by omega
      subst h2
      have hoe:out l.length=(idsV l).map (fun x=>.d (Rep.to x)):=by rw[ho,List.take_of_length_le (by omega)];simp
      refine⟨?_,?_,?_⟩
      · simp only[bor,List.getD_cons_succ,List.getD_cons_zero,hoe,List.drop_zero]
        refine⟨trivial,?_⟩
        rw[List.all_eq_true]
        intro x hx
        obtain⟨y,_,rfl⟩:=List.mem_map.1 (List.mem_of_mem_take hx)
        rfl
      · simp only[bor,List.getD_cons_succ,List.getD_cons_zero,hoe,List.drop_zero]
        rw[List.take_of_length_le (by simp[hil]),List.map_map]
        simp only[LeD_sl,true_and]
        rfl
      · rw[part_end]
@[simp] def S_intern_Ids:List D→Prop × D:=spec1 (α:=List (List Str)) smallL (fun l=>Rep.to (idsV l))
theorem ct_intern_Ids {P:Program} {f g:Nat} {G:Gam} (h:CodeOf P f 1 3 [1] (x_intern_Ids g)) (hG:GamOk P G) (hg:G.find g=some S_intern_number):Has P f S_intern_Ids:=h.has1 hG fun l hp=>by
  simp[x_intern_Ids,hg]
  exact hp
@[simp] def S_intern_Names:List D→Prop × D:=spec1 (α:=List (List Str)) smallL (fun l=>Rep.to (namesV l))
theorem ct_intern_Names {P:Program} {f g:Nat} {G:Gam} (h:CodeOf P f 1 3 [1] (x_intern_Names g)) (hG:GamOk P G) (hg:G.find g=some S_intern_number):Has P f S_intern_Names:=h.has1 hG fun l hp=>by
  simp[x_intern_Names,hg]
  exact hp
end Go.AE
namespace Go.AE
theorem mem_fold (xs:List Str):∀out:List Str,∀x,x∈xs.foldl addV out↔x∈out∨x∈xs:=by
  induction xs with
  | nil=>intro out x;simp
  | cons y xs ih =>
    intro out x
    rw[List.foldl_cons,ih]
    unfold addV
    by_cases hy:y∈out
    · simp only[hy,if_true,List.mem_cons]
      constructor
      · rintro (h | h)
        · exact .inl h
        · exact .inr (.inr h)
      · rintro (h | rfl | h)
        · exact .inl h
        · exact .inl hy
        · exact .inr h
    · simp only[hy,if_false,List.mem_append,List.mem_cons,List.not_mem_nil,or_false,or_assoc]
theorem mem_names {l:List (List Str)} {x:Str}:x∈namesV l↔∃y,y∈l∧x∈y:=by
  unfold namesV
  rw[mem_fold]
  simp
theorem placeV_mem {l:List Str} {x:Str} (h:x∈l):∃k:Nat,∃hk:k<l.length,placeV l x=k∧l[k]=x:=by
  unfold placeV
  cases hf:l.findIdx? (· == x) with
  | none =>
    rw[List.findIdx?_eq_none_iff] at hf
    simpa using hf x h
  | some k =>
    rw[List.findIdx?_eq_some_iff_getElem] at hf
    obtain⟨hk,h1,_⟩:=hf
    exact⟨k,hk,rfl,by simpa using h1⟩
def insB (s:List ChangeT) (k:Nat):Bool:=s.any fun c=>decide (c.new≤(k:Int)∧(k:Int)<c.new+c.newLen)
theorem runN_mem:∀(n:Nat) (i j:Int) (s:SpanT),s∈runN n i j↔∃t:Nat,t<n∧s=⟨i+t,j+t⟩
  | 0,i,j,s=>by simp[runN]
  | n+1,i,j,s=>by
    simp only[runN,List.mem_cons,runN_mem n]
    constructor
    · rintro (rfl | ⟨t,ht,rfl⟩)
      · exact⟨0,by omega,by simp⟩
      · exact⟨t+1,by omega,by push_cast;simp;omega⟩
    · rintro⟨t,ht,rfl⟩
      rcases Nat.eq_zero_or_pos t with rfl | h
      · exact .inl (by simp)
      · exact .inr ⟨t-1,by omega,by simp;omega⟩
theorem okV_new:∀(l:List ChangeT) (i j m n:Int) (fst:Bool),okV l i j fst m n=true→j≤n∧∀c,c∈l→j≤c.new∧0≤c.newLen∧c.new+c.newLen≤n∧i≤c.old∧0≤c.oldLen∧c.old+c.oldLen≤m
  | [],i,j,m,n,fst,h=>by
    simp only[okV,Bool.and_eq_true,decide_eq_true_eq] at h
    exact⟨by omega,by simp⟩
  | c::l,i,j,m,n,fst,h=>by
    simp only[okV,Bool.and_eq_true] at h
    have h2:=stepV_true h.1
    obtain⟨h3,h4⟩:=okV_new l _ _ _ _ _ h.2
    have h5:=okV_le l _ _ _ _ _ h.2
    refine⟨by omega,fun d hd=>?_⟩
    rcases List.mem_cons.1 hd with rfl | hd
    · omega
    · have:=h4 d hd
      omega
theorem insB_low {l:List ChangeT} {i j m n:Int} {fst:Bool} (h:okV l i j fst m n=true) {k:Nat} (hk:(k:Int)<j):insB l k=false:=by
  unfold insB
  rw[List.any_eq_false]
  intro c hc
  have:=(okV_new l _ _ _ _ _ h).2 c hc
  simp
  omega
def scrV (ids:List (List Int)) (p:Nat):List ChangeT:=scriptV (ids.getD (p+1) []) (ids.getD 0 [])
def markN (ids:List (List Int)) (k:Nat):Nat→Nat
  | 0=>0
  | p+1=>if insB (scrV ids p) k=true then markN ids k p ||| 2 ^ p else markN ids k p
theorem markN_lt (ids:List (List Int)) (k:Nat):∀n,markN ids k n<2 ^ n
  | 0=>by simp[markN]
  | n+1=>by
    have ih:=markN_lt ids k n
    have e:2 ^ (n+1)=2 ^ n+2 ^ n:=by rw[Nat.pow_succ];omega
    unfold markN
    split
    · exact Nat.or_lt_two_pow (by omega) (by omega)
    · omega
def gapS (x:List Int) (s:List ChangeT) (k:Nat):List Int:=s.foldl (fun acc c=>if c.new=(k:Int) then (x.drop c.old.toNat).take c.oldLen.toNat else acc) []
def gapV (ids:List (List Int)) (n k:Nat):List (List Int):=(List.range n).map fun p=>gapS (ids.getD (p+1) []) (scrV ids p) k
theorem gapS_len (x:List Int) (s:List ChangeT) (k:Nat):(gapS x s k).length≤x.length:=by
  unfold gapS
  suffices ∀(s:List ChangeT) (acc:List Int),acc.length≤x.length→(s.foldl (fun acc c=>if c.new=(k:Int) then (x.drop c.old.toNat).take c.oldLen.toNat else acc) acc).length≤x.length from this s [] (by simp)
  intro s
  induction s with
  | nil=>intro acc h;exact h
  | cons c s ih =>
    intro acc h
    rw[List.foldl_cons]
    refine ih _ ?_
    split
    · simp;omega
    · exact h
theorem gapS_mem (x:List Int) (s:List ChangeT) (k:Nat):∀y,y∈gapS x s k→y∈x:=by
  unfold gapS
  suffices ∀(s:List ChangeT) (acc:List Int),(∀y,y∈acc→y∈x)→∀y,y∈(s.foldl (fun acc c=>if c.new=(k:Int) then (x.drop c.old.toNat).take c.oldLen.toNat else acc) acc)→y∈x from this s [] (by simp)
  intro s
  induction s with
  | nil=>intro acc h;exact h
  | cons c s ih =>
    intro acc h
    rw[List.foldl_cons]
    refine ih _ ?_
    split
    · intro y hy
      exact List.mem_of_mem_drop (List.mem_of_mem_take hy)
    · exact h
def mergedV (xs:List (List Int)):List MergedT:=(coalO xs 0 []).getD []
def lostRow (names:List Str) (m:MergedT):RowT:=⟨true,m.parents,names.getD m.line.toNat []⟩
def keptRow (names:List Str) (ids:List (List Int)) (n k:Nat):RowT:=⟨false,markN ids k n,names.getD ((ids.getD 0 []).getD k 0).toNat []⟩
def gapRows (names:List Str) (ids:List (List Int)) (n k:Nat):List RowT :=
  (mergedV (gapV ids n k)).map (lostRow names)++if k<(ids.getD 0 []).length then [keptRow names ids n k] else []
def rowsTo (names:List Str) (ids:List (List Int)) (n k:Nat):List RowT:=(List.range k).flatMap (gapRows names ids n)
theorem rowsTo_succ (names:List Str) (ids:List (List Int)) (n k:Nat):rowsTo names ids n (k+1)=rowsTo names ids n k++gapRows names ids n k:=by
  simp[rowsTo,List.range_succ]
def filesV (result:Str) (parents:List Str):List (List Str):=(result::parents).map linesV
def makeV (result:Str) (parents:List Str):TableT :=
  ⟨parents.length,rowsTo (namesV (filesV result parents)) (idsV (filesV result parents)) parents.length ((linesV result).length+1)⟩
def makeD (result:Str) (parents:List Str):D :=
  if parents.length<1∨32<parents.length then .tup [Rep.to (⟨0,[]⟩:TableT),.int .i64 2] else .tup [Rep.to (makeV result parents),.int .i64 0]
theorem idsV_getD {files:List (List Str)} {p:Nat} (h:p<files.length):(idsV files).getD p []=(files[p]).map (placeV (namesV files)):=by
  simp[idsV,List.getD,h]
theorem id_name {files:List (List Str)} {p:Nat} (h:p<files.length) {x:Int} (hx:x∈(idsV files).getD p []):∃k:Nat,x=k∧k<(namesV files).length∧∃y,y∈files[p]∧(namesV files).getD k []=y∧x=placeV (namesV files) y:=by
  rw[idsV_getD h] at hx
  obtain⟨y,hy,rfl⟩:=List.mem_map.1 hx
  obtain⟨k,hk,h1,h2⟩:=placeV_mem (mem_names.2 ⟨_,List.getElem_mem h,hy⟩)
  exact⟨k,h1,hk,y,hy,by simp[List.getD,hk,h2],rfl⟩
theorem filesV_len (r:Str) (ps:List Str):(filesV r ps).length=ps.length+1:=by simp[filesV]
theorem filesV_zero (r:Str) (ps:List Str):(filesV r ps)[0]'(by rw[filesV_len];omega)=linesV r:=by simp[filesV]
theorem filesV_succ (r:Str) (ps:List Str) {p:Nat} (h:p<ps.length):(filesV r ps)[p+1]'(by rw[filesV_len];omega)=linesV ps[p]:=by simp[filesV]
theorem ids0_len (r:Str) (ps:List Str):((idsV (filesV r ps)).getD 0 []).length=(linesV r).length:=by
  rw[idsV_getD (by rw[filesV_len];omega),List.length_map,filesV_zero]
theorem kept_text (r:Str) (ps:List Str) {k:Nat} (hk:k<(linesV r).length):(namesV (filesV r ps)).getD (((idsV (filesV r ps)).getD 0 []).getD k 0).toNat []=(linesV r)[k]∧0≤((idsV (filesV r ps)).getD 0 []).getD k 0∧(((idsV (filesV r ps)).getD 0 []).getD k 0).toNat<(namesV (filesV r ps)).length:=by
  have h0:0<(filesV r ps).length:=by rw[filesV_len];omega
  have hl:=ids0_len r ps
  have hm:((idsV (filesV r ps)).getD 0 []).getD k 0∈(idsV (filesV r ps)).getD 0 []:=by
    exact getD_mem _ 0 (by rw[hl];exact hk)
  obtain⟨j,h1,h2,y,h3,h4,h5⟩:=id_name h0 hm
  have e:((idsV (filesV r ps)).getD 0 []).getD k 0=placeV (namesV (filesV r ps)) (linesV r)[k]:=by
    rw[idsV_getD h0,List.getD,List.getElem?_eq_getElem (by rw[List.length_map,filesV_zero];exact hk)]
    simp[filesV_zero]
  have hin:(linesV r)[k]∈namesV (filesV r ps):=mem_names.2 ⟨_,List.getElem_mem h0,by rw[filesV_zero];exact List.getElem_mem _⟩
  obtain⟨i,hi,g1,g2⟩:=placeV_mem hin
  rw[e,g1]
  simp[List.getD,hi,g2]
theorem coal_mem {ys:List (List Int)} {l:List MergedT} (h:CoalOk ys l) (hn:ys.length≤32) {m:MergedT} (hm:m∈l):∃b,∃hb:b<ys.length,m.line∈ys[b]:=by
  obtain⟨k,h1,h2,h3⟩:=h.ok m hm
  obtain⟨b,hb⟩:=Nat.exists_testBit_of_ne_zero (show k≠0 by omega)
  have hbl:b<ys.length:=by
    rcases Nat.lt_or_ge b ys.length with h4 | h4
    · exact h4
    · have:k<2 ^ b:=Nat.lt_of_lt_of_le h3 (Nat.pow_le_pow_right (by omega) h4)
      rw[Nat.testBit_lt_two_pow this] at hb
      exact absurd hb (by simp)
  have hk:k<4294967296:=Nat.lt_of_lt_of_le h3 (pow_le hn)
  refine⟨b,hbl,?_⟩
  rw[← h.pr b hbl]
  refine List.mem_map.2 ⟨m,List.mem_filter.2 ⟨hm,?_⟩,rfl⟩
  unfold hasV
  rw[h1,getU_nat hk (by omega),if_pos hb]
  rfl
end Go.AE
namespace Go.AE
def indOk (s n:Str):Prop:=s.length<4294967281∨n.length=1
@[simp] theorem indOk_of {s n:Str} (h:s.length<4294967281):indOk s n:=.inl h
@[simp] def S_strings_Index:List D→Prop × D:=spec2 (α:=Str) (β:=Str) indOk (fun s n=>.int .i64 (Lib.index s n))
def rowOk (r:RowT):Prop:=0≤r.marks∧r.marks<4294967296
def blankV (r:RowT):Bool:=!r.lost && decide (r.marks=0)
@[simp] def S_interest_blank:List D→Prop × D:=spec1 (α:=RowT) (fun _=>True) (fun r=>.bool (blankV r))
theorem ct_interest_blank {P:Program} {f:Nat} {G:Gam} (h:CodeOf P f 1 3 [2] x_interest_blank) (hG:GamOk P G):Has P f S_interest_blank:=h.has1 hG fun r _=>by
  cases hl:r.lost <;> simp[x_interest_blank,hl,blankV]
def visB (r:RowT) (c:Int):Bool:=if c=-1 then !r.lost else if c < -1∨32≤c then false else (decide (getU r.marks c=1) == r.lost)
def colV (rows:List RowT) (c:Int):List Str:=(rows.filter fun r=>visB r c).map RowT.text
def lineB (s:Str):Bool:=okL s
def marksB (rows:List RowT) (n:Nat):Bool:=rows.all fun r=>decide (r.marks.toNat<2 ^ n) && (!r.lost || decide (r.marks≠0))
def markB (n:Nat) (r:RowT):Bool:=decide (r.marks.toNat<2 ^ n) && (!r.lost || decide (r.marks≠0))
theorem marksB_all (rows:List RowT) (n:Nat):marksB rows n=rows.all (markB n):=rfl
def textsB (rows:List RowT) (n:Nat):Bool:=(rows.all fun r=>lineB r.text) && (List.range (n+1)).all fun (c:Nat)=>listV (colV rows ((c:Int)-1))
def inN (r:RowT):Nat:=if r.lost then r.marks.toNat else 4294967295 ^^^ r.marks.toNat
def endsB:Bool→Nat→List RowT→Bool
  | _,_,[]=>true
  | res,par,r::rs=>decide (par &&& inN r=0) && (r.lost || !res) && endsB (res || (!endedV r.text && !r.lost)) (if endedV r.text then par else par ||| inN r) rs
def colB (c:Int):Bool→List RowT→Bool
  | _,[]=>true
  | had,r::rs=>if visB r c then !had && colB c (!endedV r.text) rs else colB c had rs
theorem testBit_ones {p:Nat} (h:p<32):(4294967295:Nat).testBit p=true:=by
  have:(4294967295:Nat)=2 ^ 32-1:=rfl
  rw[this,Nat.testBit_two_pow_sub_one]
  simpa using h
theorem inN_bit {r:RowT} (h:rowOk r) {p:Nat} (hp:p<32):(inN r).testBit p=visB r p:=by
  obtain⟨h1,h2⟩:=h
  have hm:getU r.marks p=if r.marks.toNat.testBit p=true then 1 else 0:=by
    have:=getU_nat (m:=r.marks.toNat) (p:=p) (by omega) hp
    rwa [show ((r.marks.toNat:Nat):Int)=r.marks by omega] at this
  have n1:¬((p:Int)=-1):=by omega
  have n2:¬((p:Int) < -1∨32≤(p:Int)):=by omega
  unfold inN visB
  rw[if_neg n1,if_neg n2,hm]
  cases hl:r.lost with
  | true=>cases hb:r.marks.toNat.testBit p <;> simp[hb]
  | false =>
    simp only[Bool.false_eq_true,if_false,Nat.testBit_xor,testBit_ones hp]
    cases hb:r.marks.toNat.testBit p <;> simp
theorem inN_lt {r:RowT} (h:rowOk r):inN r<2 ^ 32:=by
  obtain⟨h1,h2⟩:=h
  unfold inN
  split
  · have:(2:Nat) ^ 32=4294967296:=rfl
    omega
  · exact Nat.xor_lt_two_pow (by omega) (by have:(2:Nat) ^ 32=4294967296:=rfl;omega)
theorem and_zero {a b:Nat} (hb:b<2 ^ 32):(a &&& b=0)↔∀p:Nat,p<32→¬(a.testBit p=true∧b.testBit p=true):=by
  constructor
  · intro h p _ h2
    have:(a &&& b).testBit p=true:=by rw[Nat.testBit_and,h2.1,h2.2];rfl
    rw[h] at this
    simp at this
  · intro h
    apply Nat.eq_of_testBit_eq
    intro p
    rw[Nat.testBit_and,Nat.zero_testBit]
    by_cases hp:p<32
    · have:=h p hp
      cases h1:a.testBit p <;> cases h2:b.testBit p <;> simp_all
    · rw[Nat.testBit_lt_two_pow (Nat.lt_of_lt_of_le hb (Nat.pow_le_pow_right (by omega) (by omega)))]
      simp
theorem vis_res (r:RowT):visB r (-1)=!r.lost:=by simp[visB]
theorem ends_cols:∀(rows:List RowT) (res:Bool) (par:Nat),(∀r,r∈rows→rowOk r)→(endsB res par rows=true↔colB (-1) res rows=true∧∀p:Nat,p<32→colB p (par.testBit p) rows=true)
  | [],res,par,_=>by simp[endsB,colB]
  | r::rs,res,par,h=>by
    have hr:=h r (by simp)
    have ih:=ends_cols rs (res || (!endedV r.text && !r.lost)) (if endedV r.text then par else par ||| inN r) fun x hx=>h x (by simp[hx])
    simp only[endsB,Bool.and_eq_true,decide_eq_true_eq,ih,and_zero (inN_lt hr),colB,vis_res]
    constructor
    · rintro⟨⟨h1,h2⟩,h3,h4⟩
      refine⟨?_,fun p hp=>?_⟩
      · cases hl:r.lost with
        | true=>simpa [hl] using h3
        | false =>
          have hres:res=false:=by simpa [hl] using h2
          subst hres
          simpa [hl] using h3
      · have h5:=h4 p hp
        have h6:=h1 p hp
        rw[inN_bit hr hp] at h6
        cases hv:visB r p with
        | true =>
          have hpf:par.testBit p=false:=by
            cases hx:par.testBit p with
            | false=>rfl
            | true=>exact absurd ⟨hx,hv⟩ h6
          rw[hpf]
          cases he:endedV r.text with
          | true=>rw[he] at h5;simp[hpf] at h5;simpa using h5
          | false=>rw[he] at h5;simp[Nat.testBit_or,inN_bit hr hp,hv] at h5;simpa using h5
        | false =>
          cases he:endedV r.text with
          | true=>rw[he] at h5;simpa using h5
          | false=>rw[he] at h5;simp[Nat.testBit_or,inN_bit hr hp,hv] at h5;simpa using h5
    · rintro⟨h3,h4⟩
      have h1:∀p,p<32→¬(par.testBit p=true∧(inN r).testBit p=true):=by
        rintro p hp ⟨a,b⟩
        rw[inN_bit hr hp] at b
        have:=h4 p hp
        simp[b,a] at this
      refine⟨⟨h1,?_⟩,?_,fun p hp=>?_⟩
      · cases hl:r.lost with
        | true=>rfl
        | false =>
          simp[hl] at h3
          simp[h3.1]
      · cases hl:r.lost with
        | true=>simpa [hl] using h3
        | false =>
          simp[hl] at h3
          simp[h3]
      · have h5:=h4 p hp
        cases hv:visB r p with
        | true =>
          simp[hv] at h5
          cases he:endedV r.text with
          | true=>simp[h5.1];simpa [he] using h5.2
          | false=>simp[Nat.testBit_or,inN_bit hr hp,hv];simpa [he] using h5.2
        | false =>
          simp[hv] at h5
          cases he:endedV r.text with
          | true=>simpa using h5
          | false=>simpa [Nat.testBit_or,inN_bit hr hp,hv] using h5
theorem col_far {n:Nat}:∀(rows:List RowT) (had:Bool) (p:Nat),(∀r,r∈rows→rowOk r)→rows.all (markB n)=true→n≤p→p<32→colB p had rows=colB (-1) had rows
  | [],_,_,_,_,_,_=>rfl
  | r::rs,had,p,h,hm,hn,hp=>by
    have hr:=h r (by simp)
    simp only[List.all_cons,Bool.and_eq_true] at hm
    have ih:=fun had=>col_far rs had p (fun x hx=>h x (by simp[hx])) hm.2 hn hp
    have hlt:r.marks.toNat<2 ^ n:=by
      have:=hm.1
      simp only[markB,Bool.and_eq_true,decide_eq_true_eq] at this
      exact this.1
    have hb:r.marks.toNat.testBit p=false:=Nat.testBit_lt_two_pow (Nat.lt_of_lt_of_le hlt (Nat.pow_le_pow_right (by omega) hn))
    have hv:visB r p=!r.lost:=by
      rw[← inN_bit hr hp]
      unfold inN
      cases hl:r.lost with
      | true=>simp[hb]
      | false=>simp only[Bool.false_eq_true,if_false,Nat.testBit_xor,testBit_ones hp,hb];rfl
    simp only[colB,hv,vis_res,ih]
def lastB:List Str→Bool
  | []=>true
  | [_]=>true
  | x::y::r=>endedV x && lastB (y::r)
theorem listV_last:∀l:List Str,listV l=(l.all okL && lastB l)
  | []=>rfl
  | [x]=>by simp[listV,lastB]
  | x::y::r=>by
    have ih:=listV_last (y::r)
    simp only[listV,lastB,ih,List.all_cons]
    cases okL x <;> cases endedV x <;> simp
theorem col_had (c:Int):∀(rows:List RowT),colB c true rows=(colV rows c).isEmpty
  | []=>rfl
  | r::rs=>by
    simp only[colB]
    cases hv:visB r c with
    | true=>simp[colV,hv]
    | false=>simp[colV,hv,col_had c rs]
theorem last_cons (x:Str) (l:List Str):lastB (x::l)=if endedV x then lastB l else l.isEmpty:=by
  cases l with
  | nil=>simp[lastB]
  | cons y r=>cases h:endedV x <;> simp[lastB,h]
theorem col_last (c:Int):∀(rows:List RowT),colB c false rows=lastB (colV rows c)
  | []=>rfl
  | r::rs=>by
    simp only[colB]
    cases hv:visB r c with
    | true =>
      have e:colV (r::rs) c=r.text::colV rs c:=by simp[colV,hv]
      rw[e,last_cons]
      cases he:endedV r.text with
      | true=>simp[col_last c rs]
      | false=>simp[col_had]
    | false=>simp[colV,hv,col_last c rs]
theorem texts_ends {rows:List RowT} {n:Nat} (h:∀r,r∈rows→rowOk r) (hm:rows.all (markB n)=true) (hn:n≤32) :
    textsB rows n=((rows.all fun r=>lineB r.text) && endsB false 0 rows):=by
  unfold textsB
  cases hl:rows.all fun r=>lineB r.text with
  | false=>rfl
  | true =>
    simp only[Bool.true_and]
    have hcol:∀c,listV (colV rows c)=colB c false rows:=by
      intro c
      rw[listV_last,col_last]
      have:(colV rows c).all okL=true:=by
        rw[List.all_eq_true] at hl ⊢
        intro x hx
        obtain⟨r,hr,rfl⟩:=List.mem_map.1 hx
        exact hl r (List.mem_filter.1 hr).1
      rw[this,Bool.true_and]
    rw[Bool.eq_iff_iff,ends_cols rows false 0 h]
    simp only[hcol,List.all_eq_true,List.mem_range,Nat.zero_testBit]
    constructor
    · intro h1
      have h0:=h1 0 (by omega)
      simp at h0
      refine⟨h0,fun p hp=>?_⟩
      by_cases hpn:p<n
      · have:=h1 (p+1) (by omega)
        rwa [show (((p+1:Nat):Int)-1)=p by omega] at this
      · rw[col_far rows false p h hm (by omega) hp]
        exact h0
    · rintro⟨h0,h1⟩ c hc
      rcases Nat.eq_zero_or_pos c with rfl | hc0
      · simpa using h0
      · have:=h1 (c-1) (by omega)
        rwa [show ((c:Int)-1)=((c-1:Nat):Int) by omega]
def checkTab (t:TableT):Int:=if t.parents<1∨32<t.parents then 2 else if marksB t.rows t.parents.toNat=true then (if textsB t.rows t.parents.toNat=true then 0 else 4) else 180
def tabOk (t:TableT):Prop:=t.rows.length≤1048576∧(∀r,r∈t.rows→rowOk r)∧flen (t.rows.map RowT.text)≤4194304
theorem text_le {rows:List RowT} {r:RowT} (h:r∈rows):r.text.length≤flen (rows.map RowT.text):=by
  induction rows with
  | nil=>simp at h
  | cons x rs ih =>
    unfold flen at *
    rw[List.map_cons,List.flatten_cons,List.length_append]
    rcases List.mem_cons.1 h with rfl | h
    · omega
    · have:=ih h
      omega
def tabWide (t:TableT):Prop:=t.rows.length≤1048576∧(∀r,r∈t.rows→rowOk r)∧∀r,r∈t.rows→r.text.length≤9223372036854775807
@[simp] theorem tabWide_of {t:TableT} (h:tabOk t):tabWide t:=⟨h.1,h.2.1,fun r hr=>by have:=text_le hr;have:=h.2.2;omega⟩
theorem joinD_lines {s:Str} (h:checkT s=0):joinD (linesV s)=.tup [.str s,.int .i64 0]:=by
  have h1:s.length≤1048576∧(linesV s).length≤4096:=by
    unfold checkT at h
    split at h
    · assumption
    · simp at h
  have h2:flen (linesV s)=s.length:=by unfold flen;rw[lines_flat]
  unfold joinD
  rw[if_pos (show listV (linesV s)=true from listV_lines s [] (by simp)),h2,if_pos h1,join_flat,lines_flat]
structure PLineT where
  kind:Int
  text:Str
  deriving DecidableEq,Inhabited
structure PHunkT where
  old:Int
  new:Int
  lines:List PLineT
  deriving DecidableEq,Inhabited
structure PatchT where
  oldName:Str
  newName:Str
  hunks:List PHunkT
  deriving DecidableEq,Inhabited
/-! ### what a patch is -/
def unendS:Str:=[10,92,32,78,111,32,110,101,119,108,105,110,101,32,97,116,32,101,110,100,32,111,102,32,102,105,108,101,10]
def namedB (s:Str):Bool:=decide (1≤s.length) && decide (s.length≤200)
def joinP (l:List Str):Str × Int:=if listV l=true then (if flen l≤1048576∧l.length≤4096 then (l.flatten,0) else ([],1)) else ([],140)
end Go.AE
namespace Go.AE
theorem shr32 {m:Int} {n:Nat} (h1:0≤m) (h2:m<4294967296) (hn:1≤n) (hn2:n≤32):((m.fdiv (2 ^ min 1 IntKind.u32.bits)).fdiv (2 ^ min (n-1) IntKind.u32.bits)=0)=(m.toNat<2 ^ n):=by
  obtain⟨m,rfl⟩:=Int.eq_ofNat_of_zero_le h1
  have e3:min (n-1) IntKind.u32.bits=n-1:=by simp only[IntKind.bits];omega
  have e4:min 1 IntKind.u32.bits=1:=rfl
  have h0:((2:Int) ^ (n-1))=((2 ^ (n-1):Nat):Int):=by push_cast;rfl
  have h5:(m:Int).fdiv ((2:Int) ^ 1)=((m / 2:Nat):Int):=by
    rw[show ((2:Int) ^ 1)=((2:Nat):Int) from rfl,Int.fdiv_eq_ediv_of_nonneg _ (Int.natCast_nonneg _)]
    rfl
  rw[e3,e4,h0,h5,Int.fdiv_eq_ediv_of_nonneg _ (Int.natCast_nonneg _),show (((m / 2:Nat):Int) / ((2 ^ (n-1):Nat):Int))=((m / 2 / 2 ^ (n-1):Nat):Int) from rfl,Nat.div_div_eq_div_mul]
  have e5:2 * 2 ^ (n-1)=2 ^ n:=by rw[Nat.mul_comm,← Nat.pow_succ];congr 1;omega
  rw[e5]
  have h3:m / 2 ^ n=0↔m<2 ^ n:=by rw[Nat.div_eq_zero_iff];have:=Nat.two_pow_pos n;omega
  simp only[Int.toNat_natCast,eq_iff_iff,← h3]
  omega
@[simp] def S_weave_Marked:List D→Prop × D:=spec2 (α:=RowT) (β:=Int) (fun r n=>rowOk r∧1≤n∧n≤32) (fun r n=>.bool (markB n.toNat r))
theorem ct_weave_Marked {P:Program} {f:Nat} {G:Gam} (h:CodeOf P f 2 4 [3] x_weave_Marked) (hG:GamOk P G):Has P f S_weave_Marked:=h.has2 hG fun r n hp=>by
  obtain⟨p1,p2,p3⟩:=hp
  obtain⟨n,rfl⟩:=Int.eq_ofNat_of_zero_le (show 0≤n by omega)
  have w1:IntKind.i64.wrap ((n:Int)-1)=((n-1:Nat):Int):=by rw[wrap_in (by omega) (by omega)];omega
  have hs:=shr32 p1.1 p1.2 (show 1≤n by omega) (by omega)
  by_cases c:r.marks.toNat<2 ^ n
  · cases hl:r.lost with
    | true=>simp[x_weave_Marked,w1,hs,c,hl,markB]
    | false=>simp[x_weave_Marked,w1,hs,c,hl,markB]
  · simp[x_weave_Marked,w1,hs,c,markB]
theorem index_ten (s:Str):(0≤Lib.index s [10])↔(10:UInt8)∈s:=by
  rcases first10 s with h | ⟨i,h1,h2⟩
  · have:Lib.index s [10]=-1:=Lib.index_none fun j hj=>by
      cases h3:Lib.occAt s [10] j with
      | false=>rfl
      | true=>exact absurd ((occ10 s j).1 h3) (h j)
    rw[this]
    constructor
    · intro h3;omega
    · intro h3
      obtain⟨k,hk⟩:=List.mem_iff_getElem?.1 h3
      exact absurd hk (h k)
  · have:Lib.index s [10]=i:=Lib.index_first (by have:=List.getElem?_eq_some_iff.1 h1;obtain⟨h3,_⟩:=this;omega) ((occ10 s i).2 h1) fun j hj=>by
      have:=h2 j hj
      cases h3:Lib.occAt s [10] j with
      | false=>rfl
      | true=>exact absurd ((occ10 s j).1 h3) this
    rw[this]
    constructor
    · intro _;exact List.mem_iff_getElem?.2 ⟨i,h1⟩
    · intro _;omega
@[simp] def S_strings_Contains:List D→Prop × D:=spec2 (α:=Str) (β:=Str) indOk (fun s n=>.bool (decide (0≤Lib.index s n)))
theorem ct_strings_Contains {P:Program} {f g1:Nat} {G:Gam} (h:CodeOf P f 2 3 [2] (x_strings_Contains g1)) (hG:GamOk P G) (h1:G.find g1=some S_strings_Index):Has P f S_strings_Contains:=h.has2 hG fun s n hp=>by
  simp[x_strings_Contains,h1,hp]
theorem bareV_le (x:Str):(bareV x).length≤x.length:=by
  unfold bareV
  split <;> simp
theorem bare_ten (s:Str):(10:UInt8)∈bareV s↔(10:UInt8)∈s.dropLast:=by
  rcases List.eq_nil_or_concat s with rfl | ⟨t,c,rfl⟩
  · simp[bareV,endedV]
  · simp only[List.concat_eq_append,bareV,endedV,List.getLast?_append,List.getLast?_singleton,Option.some_or,List.dropLast_concat]
    by_cases hc:c=10
    · simp[hc]
    · simp[hc,Ne.symm hc]
@[simp] def S_weave_Single:List D→Prop × D:=spec1 (α:=RowT) (fun r=>r.text.length≤9223372036854775807) (fun r=>.bool (lineB r.text))
theorem ct_weave_Single {P:Program} {f g1 g2:Nat} {G:Gam} (h:CodeOf P f 1 3 [2] (x_weave_Single g1 g2)) (hG:GamOk P G) (h1:G.find g1=some S_text_Bare) (h2:G.find g2=some S_strings_Contains):Has P f S_weave_Single:=h.has1 hG fun r hp=>by
  have hb:=bareV_le r.text
  have q1:=hp
  have q2:indOk (bareV r.text) [10]:=.inr rfl
  have e:decide (0≤Lib.index (bareV r.text) [10])=decide ((10:UInt8)∈r.text.dropLast):=by
    rw[Bool.eq_iff_iff,decide_eq_true_eq,decide_eq_true_eq,index_ten,bare_ten]
  by_cases c:r.text=[]
  · simp[x_weave_Single,c,lineB,okL]
  · have e2:(0≤Lib.index (bareV r.text) [10])=((10:UInt8)∈r.text.dropLast):=by rw[eq_iff_iff,index_ten,bare_ten]
    simp[x_weave_Single,h1,h2,q1,q2,c,e2,lineB,okL]
/-! ### following the rows -/
theorem xor_ones {m:Int} (h1:0≤m) (h2:m<4294967296):IntKind.u32.wrap ((((if IntKind.u32.signed=true then -1 else IntKind.u32.max) % 2 ^ IntKind.u32.bits).toNat ^^^ (m % 2 ^ IntKind.u32.bits).toNat:Nat):Int)=((4294967295 ^^^ m.toNat:Nat):Int):=by
  obtain⟨m,rfl⟩:=Int.eq_ofNat_of_zero_le h1
  have e:((if IntKind.u32.signed=true then -1 else IntKind.u32.max) % 2 ^ IntKind.u32.bits:Int).toNat=4294967295:=by decide
  have e2:(2:Int) ^ IntKind.u32.bits=4294967296:=rfl
  have e3:((m:Int) % 2 ^ IntKind.u32.bits).toNat=m:=by rw[e2];omega
  rw[e,e3,Int.toNat_natCast,u32_wrap]
  have:(4294967296:Nat)=2 ^ 32:=rfl
  rw[this]
  exact Nat.xor_lt_two_pow (by omega) (by omega)
theorem andU2 {a b:Nat} (ha:a<4294967296) (hb:b<4294967296):IntKind.u32.wrap ((a % 2 ^ IntKind.u32.bits &&& b % 2 ^ IntKind.u32.bits:Nat):Int)=((a &&& b:Nat):Int):=by
  have e:(2:Nat) ^ IntKind.u32.bits=4294967296:=rfl
  rw[e,Nat.mod_eq_of_lt ha,Nat.mod_eq_of_lt hb,u32_wrap]
  exact Nat.lt_of_le_of_lt Nat.and_le_left ha
theorem orU2 {a b:Nat} (ha:a<4294967296) (hb:b<4294967296):IntKind.u32.wrap ((a % 2 ^ IntKind.u32.bits ||| b % 2 ^ IntKind.u32.bits:Nat):Int)=((a ||| b:Nat):Int):=by
  have e:(2:Nat) ^ IntKind.u32.bits=4294967296:=rfl
  rw[e,Nat.mod_eq_of_lt ha,Nat.mod_eq_of_lt hb,u32_wrap]
  have:(4294967296:Nat)=2 ^ 32:=rfl
  rw[this] at *
  exact Nat.or_lt_two_pow ha hb
def A.gvd (α:Type) [Rep α] [Inhabited α] (x:A):α:=(Rep.of x.toD).getD default
attribute [simp] A.gvd
structure EndsX where
  res:Bool
  par:Nat
  row:RowT
  v:Nat
def endsOk (res:Bool) (par:Nat) (r:RowT):Bool:=decide (par &&& inN r=0) && (r.lost || !res)
def endsRes (res:Bool) (r:RowT):Bool:=res || (!endedV r.text && !r.lost)
def endsPar (par:Nat) (r:RowT):Nat:=if endedV r.text then par else par ||| inN r
@[simp] def F_weave_Ends_Add:RF EndsX where
  new:=0
  view a s:=⟨((s.getD 0 .dead).at 0 0).gb,((s.getD 0 .dead).at 0 1).gi.toNat,(a.getD 1 .any).gvd RowT,(s.getD 0 .dead).ver⟩
  args x:=[.ref 0 x.v 0 0,.agg [.d (.bool x.row.lost),.d (.int .u32 x.row.marks),.d (.str x.row.text)]]
  st x:=[.cells x.v 2 [.agg [.d (.bool x.res),.d (.int .u32 x.par)]]]
  pre x:=x.par<4294967296∧rowOk x.row∧x.row.text.length≤9223372036854775807
  res x:=.d (.bool (endsOk x.res x.par x.row))
  st' x:=[.cells x.v 2 [.agg [.d (.bool (endsRes x.res x.row)),.d (.int .u32 (endsPar x.par x.row))]]]
abbrev R_weave_Ends_Add:RSpec:=F_weave_Ends_Add.spec
theorem ct_weave_Ends_Add {P:Program} {f g1:Nat} {G:Gam} (hc:CodeOf P f 2 8 [3] (x_weave_Ends_Add g1)) (hG:GamOk P G) (h1:G.find g1=some S_text_Ended):RSpec.Ok P f R_weave_Ends_Add:=by
  refine RF.ok hc.call fun x hx=>hc.rcalls hG rfl ?_
  obtain⟨res,par,row,v⟩:=x
  obtain⟨p1,p2,p3⟩:=hx
  simp only at p1 p2 p3
  have q1:row.text.length≤9223372036854775807:=by omega
  have hx:=xor_ones p2.1 p2.2
  have hin:=inN_lt p2
  have h32:(2:Nat) ^ 32=4294967296:=rfl
  rw[h32] at hin
  have hin2:(4294967295 ^^^ row.marks.toNat:Nat)<4294967296:=by
    rw[← h32]
    obtain⟨a,b⟩:=p2
    exact Nat.xor_lt_two_pow (by omega) (by omega)
  have hmm:row.marks=((row.marks.toNat:Nat):Int):=by have:=p2.1;omega
  have hml:row.marks.toNat<4294967296:=by have:=p2.2;omega
  cases hl:row.lost with
  | true =>
    have hn:inN row=row.marks.toNat:=by simp[inN,hl]
    generalize row.marks.toNat=m at *
    cases he:endedV row.text <;> cases res <;> by_cases ha:par &&& m=0 <;>
      simp[x_weave_Ends_Add,startA,h1,hl,he,q1,hmm,andU2 p1 hml,orU2 p1 hml,ha]
    all_goals try exact FinR.done (by simp) (by simp[endsRes,endsPar,he,hl,hn,hmm]) rfl (by simp[resOf,endsOk,hl,hn,ha]) (by simp) (by simp)
  | false =>
    have hn:inN row=4294967295 ^^^ row.marks.toNat:=by simp[inN,hl]
    generalize hq:(4294967295 ^^^ row.marks.toNat:Nat)=m at *
    cases he:endedV row.text <;> cases res <;> by_cases ha:par &&& m=0 <;>
      simp[x_weave_Ends_Add,startA,h1,hl,he,q1,hx,andU2 p1 hin2,orU2 p1 hin2,ha]
    all_goals try exact FinR.done (by simp) (by simp[endsRes,endsPar,he,hl,hn]) rfl (by simp[resOf,endsOk,hl,hn,ha]) (by simp) (by simp)
theorem endsPar_lt {par:Nat} {r:RowT} (h:par<4294967296) (hr:rowOk r):endsPar par r<4294967296:=by
  have hin:=inN_lt hr
  unfold endsPar
  split
  · exact h
  · have:(4294967296:Nat)=2 ^ 32:=rfl
    rw[this] at *
    exact Nat.or_lt_two_pow h hin
theorem WkL.refl' (n:Nat) (k:List Ob):∀xs:List A,WkL n k xs xs
  | []=>trivial
  | _::xs=>⟨Wk.refl _ _ _,WkL.refl' n k xs⟩
theorem WkO.agg1 (n:Nat) (k:List Ob) (v e:Nat) (cs:List D) (h:(A.agg (cs.map .d)).fits e=true):WkO n k (.cells v e [.d (.agg cs)]) (.cells v e [.agg (cs.map .d)]):=by
  refine .inr ⟨v,e,_,_,rfl,rfl,rfl,fun i hi=>?_⟩
  simp only[List.length_singleton] at hi
  obtain rfl:i=0:=by omega
  exact⟨h,WkL.refl' _ _ _⟩
@[simp] def S_weave_Check:List D→Prop × D:=spec1 (α:=TableT) tabWide (fun t=>.int .i64 (checkTab t))
theorem ct_weave_Check {P:Program} {f g1 g2 g3:Nat} {G:Gam} (h:CodeOf P f 1 17 [2] (x_weave_Check g1 g2 g3)) (hG:GamOk P G) (h1:G.find g1=some S_weave_Marked) (h2:G.find g2=some S_weave_Single) (h3:G.findR g3=some R_weave_Ends_Add):Has P f S_weave_Check:=h.has1 hG fun t hp=>by
  obtain⟨p1,p2,p3⟩:=hp
  obtain⟨par,rows⟩:=t
  simp only at p1 p2 p3
  by_cases c1:par<1
  · simp[x_weave_Check,checkTab,c1]
  by_cases c2:32<par
  · simp[x_weave_Check,checkTab,c1,c2]
  obtain⟨n,rfl⟩:=Int.eq_ofNat_of_zero_le (show 0≤par by omega)
  have n1:(1:Int)≤n:=by omega
  have n2:(n:Int)≤32:=by omega
  have n3:n≤32:=by omega
  have hck:checkTab ⟨n,rows⟩=if marksB rows n=true then (if textsB rows n=true then 0 else 4) else 180:=by
    unfold checkTab
    rw[if_neg (by simp;omega)]
    rfl
  simp[x_weave_Check,c1,c2]
  refine vc_lp (σ:=Nat) (fun k=>k≤rows.length∧rows.all (markB n)=(rows.drop k).all (markB n)) (fun k=>rows.length-k) (fun k=>[.any,.ref 0 0 0 0,.any,.any,.any,.any,.any,.d (.sl 3 (rows.map Rep.to)),.d (.int .i64 rows.length),.d (.int .i64 k),.any,.any,.any,.any,.any,.any,.any])
    (fun k=>[.cells 0 2 [.d (Rep.to (⟨n,rows⟩:TableT))]]) 0 (by simp) (by simp) ⟨by simp,by simp⟩ ?_
  rintro k ⟨k1,k2⟩
  by_cases hk:k<rows.length
  · have w1:IntKind.i64.wrap ((k:Int)+1)=(k:Int)+1:=wrap_in (by omega) (by omega)
    have hr:=p2 _ (List.getElem_mem hk)
    rw[List.drop_eq_getElem_cons hk,List.all_cons] at k2
    cases hb:markB n rows[k] with
    | true =>
      rw[hb,Bool.true_and] at k2
      simp[hk,getD_map,w1,h1,hr,n1,n2,hb]
      exact Nxt.mk (k+1) (by omega) (by simp) (by simp) ⟨by omega,k2⟩
    | false =>
      rw[hb,Bool.false_and] at k2
      have hc:checkTab ⟨n,rows⟩=180:=by rw[hck,marksB_all,k2];rfl
      simp[hk,getD_map,h1,hr,n1,n2,hb,hc]
  have hk2:k=rows.length:=by omega
  subst hk2
  rw[List.drop_length] at k2
  have hm:rows.all (markB n)=true:=by rw[k2];rfl
  have hck2:checkTab ⟨n,rows⟩=if ((rows.all fun r=>lineB r.text) && endsB false 0 rows)=true then 0 else 4:=by
    rw[hck,marksB_all,hm,if_pos rfl,texts_ends p2 hm n3]
  simp
  refine vc_lpR (σ:=Nat × Bool × Nat) (fun x=>x.1≤rows.length∧x.2.2<4294967296∧((rows.all fun r=>lineB r.text) && endsB false 0 rows)=(((rows.drop x.1).all fun r=>lineB r.text) && endsB x.2.1 x.2.2 (rows.drop x.1))) (fun x=>rows.length-x.1)
    (fun x=>[.any,.ref 0 0 0 0,.any,.any,.ref 1 0 0 0,.any,.any,.any,.any,.any,.any,.any,.d (.sl 3 (rows.map Rep.to)),.d (.int .i64 rows.length),.d (.int .i64 x.1),.any,.any])
    (fun x=>[.cells 0 2 [.d (Rep.to (⟨n,rows⟩:TableT))],.cells 0 2 [.agg [.d (.bool x.2.1),.d (.int .u32 x.2.2)]]]) (0,false,0) ?_ ⟨by simp,by simp,by simp⟩ ?_
  · refine Re.wn (s':=[.cells 0 2 [.d (Rep.to (⟨n,rows⟩:TableT))],.cells 0 2 [.agg [.d (.bool false),.d (.int .u32 0)]]]) [false,true,false,false,true,false,false,false,false,false,false,false,true,true,true] [] (by simp) (by simp) ?_ ?_ (by simp)
    · simp
    · exact⟨.inl rfl,WkO.agg1 _ _ 0 2 [.bool false,.int .u32 0] rfl,trivial⟩
  rintro⟨k,res,par⟩ ⟨k1,k3,k4⟩
  simp only at k1 k3 k4
  by_cases hk:k<rows.length
  · have w1:IntKind.i64.wrap ((k:Int)+1)=(k:Int)+1:=wrap_in (by omega) (by omega)
    have hr:=p2 _ (List.getElem_mem hk)
    have hl2:=p3 _ (List.getElem_mem hk)
    rw[List.drop_eq_getElem_cons hk,List.all_cons,endsB] at k4
    have e1:(res || !endedV rows[k].text && !rows[k].lost)=endsRes res rows[k]:=rfl
    have e2:(if endedV rows[k].text=true then par else par ||| inN rows[k])=endsPar par rows[k]:=rfl
    have e3:(decide (par &&& inN rows[k]=0) && (rows[k].lost || !res))=endsOk res par rows[k]:=rfl
    rw[e1,e2,e3] at k4
    have q:=endsPar_lt k3 hr
    cases hb:lineB rows[k].text with
    | false =>
      have hc:checkTab ⟨n,rows⟩=4:=by rw[hck2,k4,hb];rfl
      simp[hk,getD_map,h2,hl2,hb,hc]
    | true =>
      cases ho:endsOk res par rows[k] with
      | false =>
        have hc:checkTab ⟨n,rows⟩=4:=by rw[hck2,k4,ho];simp
        simp[hk,getD_map,h2,h3,hl2,hb,ho,eRCall,k3,hr,hc]
      | true =>
        rw[hb,ho,Bool.true_and,Bool.true_and] at k4
        simp[hk,getD_map,h2,h3,hl2,hb,ho,eRCall,k3,hr,w1]
        exact Nxt.mk (k+1,endsRes res rows[k],endsPar par rows[k]) (by simp;omega) (by simp) (by simp) ⟨by simp;omega,q,k4⟩
  · have hk2:k=rows.length:=by omega
    subst hk2
    rw[List.drop_length] at k4
    have hc:checkTab ⟨n,rows⟩=0:=by rw[hck2,k4];rfl
    simp[hc]
end Go.AE
