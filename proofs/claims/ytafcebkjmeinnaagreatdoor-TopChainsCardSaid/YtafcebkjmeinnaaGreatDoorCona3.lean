/-
  Contracts of slide.
-/
import Derived.Test.YtafcebkjmeinnaaGreatDoorCona2
import Derived.Test.YtafcebkjmeinnaaGreatDoorCona1
import Derived.Test.YtafcebkjmeinnaaGreatDoorCode1

set_option linter.unusedSimpArgs false
set_option linter.unusedVariables false
set_option linter.unnecessarySimpa false
set_option maxRecDepth 20000
set_option maxHeartbeats 4000000
namespace Go.AE
def chA (c:ChangeT):A:=.agg [.d (.int .i64 c.old),.d (.int .i64 c.oldLen),.d (.int .i64 c.new),.d (.int .i64 c.newLen)]
def A.chT (a:A):ChangeT:=⟨(a.cells.getD 0 .any).gi,(a.cells.getD 1 .any).gi,(a.cells.getD 2 .any).gi,(a.cells.getD 3 .any).gi⟩
@[simp] theorem chT_chA (c:ChangeT):(chA c).chT=c:=by obtain⟨a,b,d,e⟩:=c;rfl
@[simp] theorem under_chA (n:Nat) (c:ChangeT):(chA c).under n=true:=rfl
@[simp] theorem fits_chA (c:ChangeT):(chA c).fits 4=true:=rfl
@[simp] theorem ren_chA (r:Nat→Nat) (c:ChangeT):(chA c).ren r=chA c:=rfl
@[simp] theorem ren_chA' (r:Nat→Nat):A.ren r ∘ chA=chA:=rfl
@[simp] theorem objs_chA (c:ChangeT):(chA c).objs=[]:=rfl
@[simp] theorem objsL_chA:∀(l:List ChangeT),A.objsL (l.map chA)=[]
  | []=>rfl
  | c::l=>by simp[A.objsL,objsL_chA l]
@[simp] theorem cells_chA (c:ChangeT):(chA c).cells=[.d (.int .i64 c.old),.d (.int .i64 c.oldLen),.d (.int .i64 c.new),.d (.int .i64 c.newLen)]:=rfl
theorem under_set (l:List ChangeT) (c:ChangeT) (k n:Nat):∀x,x∈(l.map chA).set k (chA c)→A.under n x=true:=fun x hx=>by
  rcases List.mem_or_eq_of_mem_set hx with h | h
  · obtain⟨y,_,rfl⟩:=List.mem_map.1 h
    rfl
  · subst h
    rfl
def Ob.chs:Ob→List ChangeT
  | .cells _ _ xs=>xs.map A.chT
  | _=>[]
@[simp] theorem chs_map (v e:Nat) (l:List ChangeT):Ob.chs (.cells v e (l.map chA))=l:=by
  show List.map A.chT (List.map chA l)=l
  rw[List.map_map,List.map_congr_left (g:=id) (fun c _=>by simp),List.map_id]
structure MvX where
  l:List ChangeT
  a:List Int
  b:List Int
  k:Nat
@[simp] def mvS (l:List ChangeT) (a b:List Int):Store:=[.cells 0 3 [.agg [.own 1 1 0 l.length,.d (.sl 1 (a.map Rep.to)),.d (.sl 1 (b.map Rep.to))]],.cells 1 4 (l.map chA)]
def MvP (x:MvX):Prop:=FitA x.l x.a x.b∧x.a.length≤4096∧x.b.length≤4096∧x.k<x.l.length∧x.l.length≤8193
def mvV (a:List A) (s:Store):MvX:=⟨(s.getD 1 .dead).chs,((s.getD 0 .dead).at 0 1).gl Int,((s.getD 0 .dead).at 0 2).gl Int,(a.getD 1 .any).gi.toNat⟩
@[simp] theorem mvV_eq (x:A) (l:List ChangeT) (a b:List Int) (k:Nat):mvV [x,.d (.int .i64 k)] [.cells 0 3 [.agg [.own 1 1 0 l.length,.d (.sl 1 (a.map Rep.to)),.d (.sl 1 (b.map Rep.to))]],.cells 1 4 (l.map chA)]=⟨l,a,b,k⟩:=by
  simp[mvV,A.gi,Ob.at,A.cells,A.gl]
@[simp] def F_slide_mover_end:RF MvX where
  new:=0
  view:=mvV
  args x:=[.ref 0 0 0 0,.d (.int .i64 x.k)]
  st x:=mvS x.l x.a x.b
  pre:=MvP
  res x:=.d (.int .i64 (endK x.l x.k))
  st' x:=mvS x.l x.a x.b
abbrev R_slide_mover_end:RSpec:=F_slide_mover_end.spec
theorem ct_slide_mover_end {P:Program} {f:Nat} {G:Gam} (hc:CodeOf P f 2 3 [2] x_slide_mover_end) (hG:GamOk P G):RSpec.Ok P f R_slide_mover_end:=by
  refine RF.ok hc.call fun x hx=>hc.rcalls hG rfl ?_
  obtain⟨l,a,b,k⟩:=x
  obtain⟨p1,p2,p3,p4,p5⟩:=hx
  simp only at p1 p2 p3 p4 p5
  obtain⟨o,d,p,e,g1,g2,g3,g4,g5⟩:=p1.get p4
  have h1:l[k]?=some ⟨o,d,p,e⟩:=by rw[List.getElem?_eq_getElem p4,g2]
  have hk:endK l k=((o+d:Nat):Int):=by unfold endK;rw[g1];simp
  have w1:IntKind.i64.wrap ((o:Int)+d)=((o+d:Nat):Int):=by rw[wrap_in (by omega) (by omega)];omega
  simp only[F_slide_mover_end,hk]
  simp[x_slide_mover_end,startA,h1,g2,p4,chA,w1]
  exact FinR.done (by simp) (by simp) rfl (by simp[resOf,resE,w1]) (by simp) (by simp)
def regD (l:List ChangeT) (a b:List Int) (k:Nat):A:=match regV l a b k with
  | none=>.tup [.d .nilsl,.d (.int .i64 0),.d (.int .i64 0),.d (.bool false)]
  | some (t,fr,sz)=>.tup [.d (.sl 1 (t.map Rep.to)),.d (.int .i64 fr),.d (.int .i64 sz),.d (.bool true)]
theorem reg_eq (l:List ChangeT) (a b:List Int) (k:Nat) {o d p e:Nat} (h:l.getD k default=⟨o,d,p,e⟩):regV l a b k=if (e:Int)=0 then some (a,(o:Int),(d:Int)) else if (d:Int)=0 then some (b,(p:Int),(e:Int)) else none:=by unfold regV;rw[h]
theorem reg_cases (l:List ChangeT) (a b:List Int) (k:Nat) {o d p e:Nat} (h:l.getD k default=⟨o,d,p,e⟩):(e≠0∧d≠0∧regV l a b k=none∧regD l a b k=.tup [.d .nilsl,.d (.int .i64 0),.d (.int .i64 0),.d (.bool false)]) ∨
    ∃(t:List Int) (fr sz:Nat),regV l a b k=some (t,(fr:Int),(sz:Int))∧regD l a b k=.tup [.d (.sl 1 (t.map Rep.to)),.d (.int .i64 fr),.d (.int .i64 sz),.d (.bool true)]∧((t=a∧fr=o∧sz=d∧e=0)∨(t=b∧fr=p∧sz=e∧d=0∧e≠0)):=by
  have hr:=reg_eq l a b k h
  by_cases c1:e=0
  · subst c1
    rw[if_pos (by simp)] at hr
    exact .inr ⟨a,o,d,hr,by unfold regD;rw[hr],.inl ⟨rfl,rfl,rfl,rfl⟩⟩
  · rw[if_neg (by omega)] at hr
    by_cases c2:d=0
    · subst c2
      rw[if_pos (by simp)] at hr
      exact .inr ⟨b,p,e,hr,by unfold regD;rw[hr],.inr ⟨rfl,rfl,rfl,rfl,c1⟩⟩
    · rw[if_neg (by omega)] at hr
      exact .inl ⟨c1,c2,hr,by unfold regD;rw[hr]⟩
@[simp] def F_slide_mover_region:RF MvX where
  new:=0
  view:=mvV
  args x:=[.ref 0 0 0 0,.d (.int .i64 x.k)]
  st x:=mvS x.l x.a x.b
  pre:=MvP
  res x:=regD x.l x.a x.b x.k
  st' x:=mvS x.l x.a x.b
abbrev R_slide_mover_region:RSpec:=F_slide_mover_region.spec
theorem ct_slide_mover_region {P:Program} {f:Nat} {G:Gam} (hc:CodeOf P f 2 9 [2,3,4,5] x_slide_mover_region) (hG:GamOk P G):RSpec.Ok P f R_slide_mover_region:=by
  refine RF.ok hc.call fun x hx=>hc.rcalls hG rfl ?_
  obtain⟨l,a,b,k⟩:=x
  obtain⟨p1,p2,p3,p4,p5⟩:=hx
  simp only at p1 p2 p3 p4 p5
  obtain⟨o,d,p,e,g1,g2,g3,g4,g5⟩:=p1.get p4
  have h1:l[k]?=some ⟨o,d,p,e⟩:=by rw[List.getElem?_eq_getElem p4,g2]
  simp only[F_slide_mover_region]
  rcases reg_cases l a b k g1 with ⟨c1,c2,_,hr⟩ | ⟨t,fr,sz,_,hr,⟨rfl,rfl,rfl,rfl⟩ | ⟨rfl,rfl,rfl,rfl,c1⟩⟩
  · rw[hr]
    simp[x_slide_mover_region,startA,h1,g2,p4,chA,c1,c2]
    exact FinR.done (by simp) (by simp) rfl (by simp[resOf,resE]) (by simp) (by simp)
  · rw[hr]
    simp[x_slide_mover_region,startA,h1,g2,p4,chA]
    exact FinR.done (by simp) (by simp) rfl (by simp[resOf,resE]) (by simp) (by simp)
  · rw[hr]
    simp[x_slide_mover_region,startA,h1,g2,p4,chA,c1]
    exact FinR.done (by simp) (by simp) rfl (by simp[resOf,resE]) (by simp) (by simp)
@[simp] def F_slide_mover_down:RF MvX where
  new:=0
  view:=mvV
  args x:=[.ref 0 0 0 0,.d (.int .i64 x.k)]
  st x:=mvS x.l x.a x.b
  pre:=MvP
  res x:=.d (.bool (canV x.l x.a x.b x.k))
  st' x:=mvS (if canV x.l x.a x.b x.k=true then movV x.l x.k else x.l) x.a x.b
abbrev R_slide_mover_down:RSpec:=F_slide_mover_down.spec
theorem fit_room {a b:List Int}:∀(l:List ChangeT) (k i j:Nat) (f:Bool) (i' j':Nat),FitS a b l i j f i' j'→a.drop i'=b.drop j'→k<l.length→1≤aftV l a k→endK l k<a.length∧(l.getD k default).new+(l.getD k default).newLen<b.length
  | [],k,i,j,f,i',j',h,hd,hk,ha=>by simp at hk
  | c::r,0,i,j,f,i',j',h,hd,hk,ha=>by
    obtain⟨q,d,e,rfl,k2,k3,k4,k5,k6,k7⟩:=h
    have hs:=fit_step r _ _ _ _ _ k7 hd (fun hr=>by
      subst hr
      simp[aftV,endK] at ha
      omega) (fun c' hc'=>by
      cases r with
      | nil=>simp at hc'
      | cons c2 r2 =>
        simp at hc'
        subst hc'
        simp[aftV,endK] at ha
        omega)
    simp[endK]
    omega
  | c::r,k+1,i,j,f,i',j',h,hd,hk,ha=>by
    obtain⟨q,d,e,rfl,k2,k3,k4,k5,k6,k7⟩:=h
    have ih:=fit_room r k _ _ _ _ _ k7 hd (by simpa using hk) (by simpa [aftV,endK] using ha)
    simpa [endK] using ih
theorem FitA.room {l:List ChangeT} {a b:List Int} (h:FitA l a b) {k:Nat} (hk:k<l.length) (ha:1≤aftV l a k):endK l k<a.length∧(l.getD k default).new+(l.getD k default).newLen<b.length:=by
  obtain⟨i',j',h1,h2⟩:=h
  exact fit_room _ _ _ _ _ _ _ h1 h2 hk ha
theorem ct_slide_mover_down {P:Program} {f g1 g2:Nat} {G:Gam} (hc:CodeOf P f 2 11 [2] (x_slide_mover_down g1 g2)) (hG:GamOk P G) (h1:G.findR g1=some R_slide_mover_region) (h2:G.findR g2=some R_slide_mover_end):RSpec.Ok P f R_slide_mover_down:=by
  refine RF.ok hc.call fun x hx=>hc.rcalls hG rfl ?_
  obtain⟨l,a,b,k⟩:=x
  have hx0:MvP ⟨l,a,b,k⟩:=hx
  obtain⟨p1,p2,p3,p4,p5⟩:=hx
  simp only at p1 p2 p3 p4 p5
  obtain⟨o,d,p,e,g1,g2,g3,g4,g5⟩:=p1.get p4
  have hk1:l[k]?=some ⟨o,d,p,e⟩:=by rw[List.getElem?_eq_getElem p4,g2]
  have hE:endK l k=((o+d:Nat):Int):=by unfold endK;rw[g1];simp
  have w1:IntKind.i64.wrap ((k:Int)+1)=(k:Int)+1:=wrap_in (by omega) (by omega)
  simp only[F_slide_mover_down]
  rcases reg_cases l a b k g1 with ⟨_,_,r1,r2⟩ | ⟨t,fr,sz,r1,r2,r3⟩
  · have hc:canV l a b k=false:=by unfold canV;rw[r1]
    rw[hc]
    simp[x_slide_mover_down,startA,eRCall,h1,hx0,r2]
    exact FinR.done (by simp) (by simp) rfl (by simp[resOf,resE]) (by simp) (by simp)
  · have hts:∀_:1≤aftV l a k,fr+sz<t.length∧t.length≤4096:=fun ha=>by
      have:=p1.room p4 ha
      rw[hE,g1] at this
      simp only at this
      rcases r3 with ⟨rfl,rfl,rfl,_⟩ | ⟨rfl,rfl,rfl,_,_⟩ <;> omega
    have hc:canV l a b k=(!decide (aftV l a k<1) && decide (t.getD fr 0=t.getD (fr+sz) 0)):=by
      unfold canV
      rw[r1]
      rfl
    have w2:IntKind.i64.wrap ((a.length:Int)-(o+d))=(a.length:Int)-(o+d):=wrap_in (by omega) (by omega)
    by_cases hn:k+1<l.length
    · obtain⟨o2,d2,p2,e2,n1,n2,n3,n4,n5⟩:=p1.get hn
      have hn1:l[k+1]?=some ⟨o2,d2,p2,e2⟩:=by rw[List.getElem?_eq_getElem hn,n2]
      have hA:aftV l a k=(o2:Int)-(o+d)-1:=by unfold aftV;rw[if_pos hn,n1,hE];simp
      have w3:IntKind.i64.wrap ((o2:Int)-(o+d))=(o2:Int)-(o+d):=wrap_in (by omega) (by omega)
      have w4:IntKind.i64.wrap ((o2:Int)-(o+d)-1)=(o2:Int)-(o+d)-1:=wrap_in (by omega) (by omega)
      by_cases c1:(o2:Int)-(o+d)-1<1
      · have hcf:canV l a b k=false:=by rw[hc,hA];simp[c1]
        rw[hcf]
        simp[x_slide_mover_down,startA,eRCall,h1,h2,hx0,r2,hE,w1,w2,show (k:Int)+1<l.length by omega,show k+1<l.length by omega,show 0≤(k:Int)+1 by omega,hn1,n2,w3,w4,c1]
        exact FinR.done (by simp) (by simp) rfl (by simp[resOf,resE]) (by simp) (by simp)
      · have ht:=hts (by omega)
        have w5:IntKind.i64.wrap ((fr:Int)+sz)=(fr:Int)+sz:=wrap_in (by omega) (by omega)
        have w6:IntKind.i64.wrap ((o:Int)+1)=(o:Int)+1:=wrap_in (by omega) (by omega)
        have w7:IntKind.i64.wrap ((p:Int)+1)=(p:Int)+1:=wrap_in (by omega) (by omega)
        have e5:((fr:Int)+sz).toNat=fr+sz:=by omega
        have t1:t[fr]?=some (t.getD fr 0):=by rw[List.getD_eq_getElem?_getD,List.getElem?_eq_getElem (by omega)];rfl
        have t2:t[fr+sz]?=some (t.getD (fr+sz) 0):=by rw[List.getD_eq_getElem?_getD,List.getElem?_eq_getElem (by omega)];rfl
        generalize t.getD fr 0=ta at *
        generalize t.getD (fr+sz) 0=tb at *
        by_cases c2:ta=tb
        · have hcf:canV l a b k=true:=by rw[hc,hA];simp[c1,c2]
          have hmv:movV l k=l.set k ⟨(o:Int)+1,d,(p:Int)+1,e⟩:=by unfold movV;rw[g1];rfl
          rw[hcf,if_pos rfl,hmv]
          simp[x_slide_mover_down,startA,eRCall,h1,h2,hx0,r2,hE,w1,w2,show (k:Int)+1<l.length by omega,show k+1<l.length by omega,show 0≤(k:Int)+1 by omega,hn1,n2,w3,w4,c1,w5,t1,t2,e5,c2,hk1,g2,p4,w6,w7]
          refine⟨by omega,⟨by omega,by omega⟩,?_⟩
          exact FinR.done (by simp) (by simp[chA]) (by simp) (by simp[resOf,resE]) (by simp;exact under_set _ _ _ _) (by simp)
        · have hcf:canV l a b k=false:=by rw[hc,hA];simp[c1,c2]
          rw[hcf]
          simp[x_slide_mover_down,startA,eRCall,h1,h2,hx0,r2,hE,w1,w2,show (k:Int)+1<l.length by omega,show k+1<l.length by omega,show 0≤(k:Int)+1 by omega,hn1,n2,w3,w4,c1,w5,t1,t2,e5,c2]
          refine⟨by omega,⟨by omega,by omega⟩,?_⟩
          exact FinR.done (by simp) (by simp) rfl (by simp[resOf,resE]) (by simp) (by simp)
    · have hA:aftV l a k=(a.length:Int)-(o+d):=by unfold aftV;rw[if_neg hn,hE];simp
      by_cases c1:(a.length:Int)-(o+d)<1
      · have hcf:canV l a b k=false:=by rw[hc,hA];simp[c1]
        rw[hcf]
        simp[x_slide_mover_down,startA,eRCall,h1,h2,hx0,r2,hE,w1,w2,show ¬(k:Int)+1<l.length by omega,c1]
        exact FinR.done (by simp) (by simp) rfl (by simp[resOf,resE]) (by simp) (by simp)
      · have ht:=hts (by omega)
        have w5:IntKind.i64.wrap ((fr:Int)+sz)=(fr:Int)+sz:=wrap_in (by omega) (by omega)
        have w6:IntKind.i64.wrap ((o:Int)+1)=(o:Int)+1:=wrap_in (by omega) (by omega)
        have w7:IntKind.i64.wrap ((p:Int)+1)=(p:Int)+1:=wrap_in (by omega) (by omega)
        have e5:((fr:Int)+sz).toNat=fr+sz:=by omega
        have t1:t[fr]?=some (t.getD fr 0):=by rw[List.getD_eq_getElem?_getD,List.getElem?_eq_getElem (by omega)];rfl
        have t2:t[fr+sz]?=some (t.getD (fr+sz) 0):=by rw[List.getD_eq_getElem?_getD,List.getElem?_eq_getElem (by omega)];rfl
        generalize t.getD fr 0=ta at *
        generalize t.getD (fr+sz) 0=tb at *
        by_cases c2:ta=tb
        · have hcf:canV l a b k=true:=by rw[hc,hA];simp[c1,c2]
          have hmv:movV l k=l.set k ⟨(o:Int)+1,d,(p:Int)+1,e⟩:=by unfold movV;rw[g1];rfl
          rw[hcf,if_pos rfl,hmv]
          simp[x_slide_mover_down,startA,eRCall,h1,h2,hx0,r2,hE,w1,w2,show ¬(k:Int)+1<l.length by omega,c1,w5,t1,t2,e5,c2,hk1,g2,p4,w6,w7]
          refine⟨by omega,⟨by omega,by omega⟩,?_⟩
          exact FinR.done (by simp) (by simp[chA]) (by simp) (by simp[resOf,resE]) (by simp;exact under_set _ _ _ _) (by simp)
        · have hcf:canV l a b k=false:=by rw[hc,hA];simp[c1,c2]
          rw[hcf]
          simp[x_slide_mover_down,startA,eRCall,h1,h2,hx0,r2,hE,w1,w2,show ¬(k:Int)+1<l.length by omega,c1,w5,t1,t2,e5,c2]
          refine⟨by omega,⟨by omega,by omega⟩,?_⟩
          exact FinR.done (by simp) (by simp) rfl (by simp[resOf,resE]) (by simp) (by simp)
@[simp] def F_slide_often (g1:Nat):RF MvX where
  new:=0
  view:=mvV
  args x:=[.fn (.func g1) [.ref 0 0 0 0] [],.d (.int .i64 x.k)]
  st x:=mvS x.l x.a x.b
  pre:=MvP
  res x:=.d (.int .i64 (oftV x.a x.b (x.a.length+1) x.l x.k).2)
  st' x:=mvS (oftV x.a x.b (x.a.length+1) x.l x.k).1 x.a x.b
abbrev R_slide_often (g1:Nat):RSpec:=(F_slide_often g1).spec
structure OfnX where
  f:Nat
  n:Nat
  l:List ChangeT
theorem ct_slide_often {P:Program} {f g1:Nat} {G:Gam} (hc:CodeOf P f 2 5 [2] x_slide_often) (hG:GamOk P G) (h1:G.findR g1=some R_slide_mover_down):RSpec.Ok P f (R_slide_often g1):=by
  refine RF.ok hc.call fun x hx=>hc.rcalls hG rfl ?_
  obtain⟨l,a,b,k⟩:=x
  obtain⟨p1,p2,p3,p4,p5⟩:=hx
  simp only at p1 p2 p3 p4 p5
  have hR:=oft_fit (a.length+1) l k p4 p1
  have hRl:=oft_len a b (a.length+1) l k
  simp only[F_slide_often]
  generalize hRR:oftV a b (a.length+1) l k=R at *
  simp[x_slide_often,startA]
  refine vc_lp (σ:=OfnX) (fun z=>FitA z.l a b∧z.l.length=l.length∧z.n+z.f=a.length+1∧(a.length<z.f+(z.l.getD k default).old.toNat)∧(oftV a b z.f z.l k).1=R.1∧(oftV a b z.f z.l k).2+z.n=R.2) (fun z=>z.f)
    (fun z=>[.fn (.func g1) [.ref 0 0 0 0] [],.d (.int .i64 k),.any,.d (.int .i64 z.n),.any]) (fun z=>mvS z.l a b) ⟨a.length+1,0,l⟩ (by simp) (by simp) ⟨p1,rfl,by simp,by simp only;omega,by rw[hRR],by rw[hRR];rfl⟩ ?_
  rintro⟨f,n,m⟩ ⟨i1,i2,i3,i4,i5,i6⟩
  simp only at i1 i2 i3 i4 i5 i6
  have hkm:k<m.length:=by omega
  have hmp:MvP ⟨m,a,b,k⟩:=⟨i1,p2,p3,hkm,by simp only;omega⟩
  have hkc:m[k]?=some (m.getD k default):=by rw[List.getD_eq_getElem?_getD,List.getElem?_eq_getElem hkm];rfl
  by_cases c:canV m a b k=true
  · obtain⟨o,d,p,e,g1,g2,g3,g4,g5⟩:=i1.get hkm
    rw[g1] at i4
    simp only at i4
    obtain⟨f,rfl⟩:∃f',f=f'+1:=⟨f-1,by omega⟩
    rw[oftV,if_pos c] at i5 i6
    have w1:IntKind.i64.wrap ((n:Int)+1)=(n:Int)+1:=wrap_in (by omega) (by omega)
    have hml:=mov_len m k
    have hgm:(movV m k).getD k default=⟨(o:Int)+1,d,(p:Int)+1,e⟩:=by unfold movV;rw[g1];simp[List.getD,hkm,movC]
    simp[eCallv,eRCall,h1,hmp,c,w1,hml]
    refine Nxt.mk ⟨f,n+1,movV m k⟩ (by simp) (by simp) (by simp[hml]) ⟨i1.move hkm c,by simp only;omega,by simp only;omega,?_,i5,by simp only;omega⟩
    simp only
    rw[← List.getD_eq_getElem?_getD,hgm]
    simp only
    omega
  · have hf:oftV a b f m k=(m,0):=by
      cases f with
      | zero=>rfl
      | succ f=>rw[oftV,if_neg c]
    rw[hf] at i5 i6
    simp only at i5 i6
    rw[← i5,← i6]
    have c':canV m a b k=false:=by simpa using c
    simp[eCallv,eRCall,h1,hmp,c']
    exact FinR.done (by simp) (by simp) (by simp[i2]) (by simp[resOf,resE]) (by simp) (by simp)
def clnA (j:Nat) (l:List ChangeT):A:=if l=[] then .d (.sl 4 []) else .own j 1 0 l.length
def clnS (l:List ChangeT):Ob:=if l=[] then .res else .cells 1 4 (l.map (A.d ∘ Rep.to))
@[simp] theorem ren_dto {α:Type} [Rep α] (r:Nat→Nat):A.ren r ∘ A.d ∘ (Rep.to:α→D)=A.d ∘ Rep.to:=rfl
@[simp] theorem clnA_nil (j:Nat):clnA j []=.d (.sl 4 []):=rfl
@[simp] theorem clnA_cons (j:Nat) (c:ChangeT) (r:List ChangeT):clnA j (c::r)=.own j 1 0 (r.length+1):=rfl
@[simp] theorem clnS_nil:clnS []=.res:=rfl
@[simp] theorem clnS_cons (c:ChangeT) (r:List ChangeT):clnS (c::r)=.cells 1 4 ((c::r).map (A.d ∘ Rep.to)):=rfl
@[simp] def F_slices_Clone_Change_Change:RF (List ChangeT) where
  new:=1
  view a _:=(a.getD 0 .any).gl ChangeT
  args l:=[.d (.sl 4 (l.map Rep.to))]
  st _:=[.res]
  pre l:=l.length≤100000
  res l:=clnA 0 l
  st' l:=[clnS l]
abbrev R_slices_Clone_Change_Change:RSpec:=F_slices_Clone_Change_Change.spec
theorem ct_slices_Clone_Change_Change {P:Program} {f:Nat} {G:Gam} (hc:CodeOf P f 1 3 [1] x_slices_Clone_Change_Change) (hG:GamOk P G) (h0:RCalls P f [.d (.sl 4 [])] [.res] (.d (.sl 4 [])) [.res]):RSpec.Ok P f R_slices_Clone_Change_Change:=by
  refine RF.ok hc.call fun l hl=>?_
  cases l with
  | nil=>exact h0
  | cons c r =>
    have hl:(c::r).length≤100000:=hl
    simp at hl
    refine hc.rcalls hG rfl ?_
    simp[x_slices_Clone_Change_Change,startA]
    refine⟨by unfold room;omega,?_⟩
    refine⟨by simp[resPre,resE],[1],rfl,⟨by decide,by simp,?_⟩,fun k hk=>?_,?_,?_,by simp[A.under,A.unders]⟩
    · simp[pickS,Ob.ren,A.ren,Function.comp_def]
    · match k,hk with
      | 0,_=>exact .inr rfl
    · simp[pickS,Ob.ren,A.ren,Function.comp_def]
    · simp[resOf,resE,A.ren,A.rens,idxIn]
structure StaX where
  l:List ChangeT
  a:List Int
  b:List Int
@[simp] def F_slide_start:RF StaX where
  new:=2
  view a _:=⟨(a.getD 0 .any).gl ChangeT,(a.getD 1 .any).gl Int,(a.getD 2 .any).gl Int⟩
  args x:=[.d (.sl 4 (x.l.map Rep.to)),.d (.sl 1 (x.a.map Rep.to)),.d (.sl 1 (x.b.map Rep.to))]
  st _:=[.res,.res]
  pre x:=fitsV x.l x.a x.b=true∧x.l.length≤100000
  res x:=.tup [.ref 0 0 0 0,.d (.int .i64 0)]
  st' x:=[.cells 0 3 [.agg [clnA 1 x.l,.d (.sl 1 (x.a.map Rep.to)),.d (.sl 1 (x.b.map Rep.to))]],clnS x.l]
abbrev R_slide_start:RSpec:=F_slide_start.spec
theorem ct_slide_start {P:Program} {f g1 g2:Nat} {G:Gam} (hc:CodeOf P f 3 6 [3,4] (x_slide_start g1 g2)) (hG:GamOk P G) (h1:G.find g1=some S_script_Fits) (h2:G.findR g2=some R_slices_Clone_Change_Change):RSpec.Ok P f R_slide_start:=by
  refine RF.ok hc.call fun x hx=>hc.rcalls hG rfl ?_
  obtain⟨l,a,b⟩:=x
  obtain⟨p1,p2⟩:=hx
  simp only at p1 p2
  cases l with
  | nil =>
    simp[x_slide_start,startA,h1,p1,eRCall,h2]
    refine⟨by simp[resPre,resE],[3,2],rfl,⟨by decide,by simp,?_⟩,fun k hk=>?_,?_,?_,by simp[A.under,A.unders]⟩
    · simp[pickS,Ob.ren,A.ren,A.rens]
    · match k,hk with
      | 0,_=>exact .inr rfl
      | 1,_=>exact .inr rfl
    · simp[pickS,Ob.ren,A.ren,A.rens,idxIn]
    · simp[resOf,resE,A.ren,A.rens,idxIn] <;> rfl
  | cons c r =>
    simp at p2
    simp[x_slide_start,startA,h1,p1,eRCall,h2]
    refine⟨by omega,by simp[resPre,resE],[3,2],rfl,⟨by decide,by simp,?_⟩,fun k hk=>?_,?_,?_,by simp[A.under,A.unders]⟩
    · simp[pickS,Ob.ren,A.ren,A.rens,idxIn,Function.comp_def] <;> decide
    · match k,hk with
      | 0,_=>exact .inr rfl
      | 1,_=>exact .inr rfl
    · simp[pickS,Ob.ren,A.ren,A.rens,idxIn,Function.comp_def] <;> rfl
    · simp[resOf,resE,A.ren,A.rens,idxIn] <;> rfl
theorem wk_ch (n:Nat) (k:List Ob):∀l:List ChangeT,WkEL n k 4 (l.map (A.d ∘ Rep.to)) (l.map chA)
  | []=>trivial
  | c::r=>⟨⟨rfl,Wk.refl _ _ _,Wk.refl _ _ _,Wk.refl _ _ _,Wk.refl _ _ _,trivial⟩,wk_ch n k r⟩
theorem chs_isD (l:List ChangeT):(l.map chA).all A.isD=true:=by
  rw[List.all_eq_true]
  intro x hx
  obtain⟨c,_,rfl⟩:=List.mem_map.1 hx
  rfl
theorem chs_toD (l:List ChangeT):(l.map chA).map A.toD=l.map Rep.to:=by
  rw[List.map_map]
  exact List.map_congr_left fun c _=>rfl
theorem bor_chs (s:Store) (j v:Nat) (l:List ChangeT) (h:s.getD j .dead=.cells v 4 (l.map chA)):bor s (.own j v 0 l.length)=(True,Rep.to l):=by
  unfold bor
  simp only[h,List.drop_zero]
  rw[List.take_of_length_le (by simp),chs_isD,chs_toD]
  simp
structure DwnX where
  m:Nat
  l:List ChangeT
theorem ct_slide_Down {P:Program} {f g1 g2 g3:Nat} {G:Gam} (h:CodeOf P f 3 10 [3,4] (x_slide_Down g1 g2 g3)) (hG:GamOk P G) (h1:G.findR g1=some R_slide_start) (h2:G.findR g2=some (R_slide_often g3)) (_:G.findR g3=some R_slide_mover_down):Has P f S_slide_Down:=h.has3 hG fun l a b hp=>by
  have hf:=hp
  simp only[fitsV,Bool.and_eq_true,List.all_eq_true,decide_eq_true_eq] at hf
  have hfit:=FitA.of hf.1 hf.2
  obtain⟨r1,r2,r3,r4,r5,r6⟩:=checkV_ch hf.1
  have hres:dwnV l a b=dwnK a b l.length l:=rfl
  cases l with
  | nil =>
    have hd:dwnV [] a b=[]:=rfl
    rw[hd]
    have w0:IntKind.i64.wrap (-1)=-1:=by decide
    simp[x_slide_Down,h1,eRCall,hp,w0]
    refine vc_lp (σ:=Unit) (fun _=>True) (fun _=>0) (fun _=>[.any,.any,.any,.any,.any,.ref 0 0 0 0,.any,.d (.int .i64 (-1)),.any,.any])
      (fun _=>[.cells 0 3 [.agg [.d (.sl 4 []),.d (.sl 1 (a.map Rep.to)),.d (.sl 1 (b.map Rep.to))]]]) () (by simp) (by simp) trivial ?_
    rintro⟨⟩ _
    simp
  | cons c r =>
    generalize hl:c::r=l at *
    have hne:l≠[]:=by rw[← hl];simp
    have hA:∀j,clnA j l=.own j 1 0 l.length:=fun j=>if_neg hne
    have hS:clnS l=.cells 1 4 (l.map (A.d ∘ Rep.to)):=if_neg hne
    have w0:IntKind.i64.wrap ((l.length:Int)-1)=(l.length:Int)-1:=wrap_in (by omega) (by omega)
    simp[x_slide_Down,h1,eRCall,hp,hA,hS,w0]
    refine⟨by omega,?_⟩
    refine vc_lpR (σ:=DwnX) (fun z=>z.m≤l.length∧z.l.length=l.length∧FitA z.l a b∧dwnK a b z.m z.l=dwnV l a b) (fun z=>z.m)
      (fun z=>[.any,.any,.any,.any,.any,.ref 0 0 0 0,.any,.d (.int .i64 ((z.m:Int)-1)),.any,.any])
      (fun z=>[.cells 0 3 [.agg [.own 1 1 0 z.l.length,.d (.sl 1 (a.map Rep.to)),.d (.sl 1 (b.map Rep.to))]],.cells 1 4 (z.l.map chA)]) ⟨l.length,l⟩ ?_ ⟨by simp,rfl,hfit,rfl⟩ ?_
    · refine Re.wn (s':=[.cells 0 3 [.agg [.own 1 1 0 l.length,.d (.sl 1 (a.map Rep.to)),.d (.sl 1 (b.map Rep.to))]],.cells 1 4 (l.map chA)]) [false,false,false,false,false,true,false,true] [] (by simp) (by simp) ?_ ?_ (by simp)
      · simp
      · exact⟨.inl rfl,.cellsL (wk_ch _ _ _),trivial⟩
    rintro⟨m,u⟩ ⟨i1,i2,i3,i4⟩
    simp only at i1 i2 i3 i4
    cases m with
    | zero =>
      have e:u=dwnV l a b:=i4
      subst e
      have hb:=bor_chs [.cells 0 3 [.agg [.own 1 1 0 (dwnV l a b).length,.d (.sl 1 (a.map Rep.to)),.d (.sl 1 (b.map Rep.to))]],.cells 1 4 ((dwnV l a b).map chA)] 1 1 (dwnV l a b) rfl
      simp[hb]
    | succ m =>
      rw[dwnK] at i4
      have hml:m<u.length:=by omega
      have hmp:MvP ⟨u,a,b,m⟩:=⟨i3,by simp only;omega,by simp only;omega,hml,by simp only;omega⟩
      have ho:=oft_fit (a.length+1) u m hml i3
      have hol:=oft_len a b (a.length+1) u m
      have w1:IntKind.i64.wrap ((m:Int)-1)=(m:Int)-1:=wrap_in (by omega) (by omega)
      have e1:((m+1:Nat):Int)-1=m:=by omega
      simp only[e1]
      simp[eRCall,h2,hmp,w1]
      exact Nxt.mk ⟨m,(oftV a b (a.length+1) u m).1⟩ (by simp) (by simp) (by simp) ⟨by simp only;omega,by simp only;omega,ho,i4⟩
end Go.AE
