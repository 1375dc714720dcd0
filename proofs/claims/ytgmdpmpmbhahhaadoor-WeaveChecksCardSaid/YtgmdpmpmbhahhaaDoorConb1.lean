/-
  The table of a result and its parents,where its rows are handed out.
-/
import Derived.Test.YtgmdpmpmbhahhaaDoorCona2

set_option linter.unusedSimpArgs false
set_option linter.unusedVariables false
set_option linter.unnecessarySimpa false
set_option maxRecDepth 20000
set_option maxHeartbeats 4000000
namespace Go.AE
structure MakeX where
  r:Str
  ps:List Str
def rowsA (l:List RowT):List A:=l.map fun x=>.d (Rep.to x)
@[simp] theorem rowsA_len (l:List RowT):(rowsA l).length=l.length:=by simp[rowsA]
theorem rowsA_snoc (l:List RowT) (x:RowT):rowsA (l++[x])=rowsA l++[.d (.agg [.bool x.lost,.int .u32 x.marks,.str x.text])]:=by simp[rowsA]
theorem rowsA_under (l:List RowT) (n:Nat):(rowsA l).all (A.under n)=true:=by
  rw[List.all_eq_true]
  intro x hx
  obtain⟨y,_,rfl⟩:=List.mem_map.1 hx
  rfl
theorem rowsA_ren (l:List RowT) (f:Nat→Nat):(rowsA l).map (A.ren f)=rowsA l:=by
  unfold rowsA
  rw[List.map_map]
  rfl
def F_ref16_Make_own:RF MakeX where
  new:=1
  view a _:=⟨(a.getD 0 .any).gs,(a.getD 1 .any).gl Str⟩
  args x:=[.d (.str x.r),.d (Rep.to x.ps)]
  st _:=[.res]
  pre x:=x.r.length≤100∧(∀p,p∈x.ps→p.length≤100)∧1≤x.ps.length∧x.ps.length≤32
  res x:=.tup [.agg [.d (.int .i64 x.ps.length),.own 0 (makeV x.r x.ps).rows.length 0 (makeV x.r x.ps).rows.length],.d (.int .i64 0)]
  st' x:=[.cells (makeV x.r x.ps).rows.length 3 (rowsA (makeV x.r x.ps).rows)]
abbrev R_ref16_Make_own:RSpec:=F_ref16_Make_own.spec
theorem freezeAll2 {lo:Nat} (hlo:lo≤2) {T T':List A} (b0 b1:Ob) (L n m:Nat) (q:Nat→Nat) (d:Nat→Nat→D)
    (hT:∃T1,FzL 3 0 1 (gapF n m d m) T T1∧∃T2,FzL 2 0 1 (marksC L q) T1 T2∧SbL T2 T')
    (hu:T'.all (A.under 2)=true) (hb:b0.under 2=true∧b1.under 2=true) :
    Re lo T (b0::b1::.cells 0 1 (marksC L q)::.cells 0 1 (gapC n m m)::rowsO n d m) T' [b0,b1]:=by
  obtain⟨T1,f1,T2,f2,f3⟩:=hT
  refine Re.trans (freezeRows b0 b1 (marksC L q) n m d m (Nat.le_refl _)) ?_
  refine Re.trans (Re.freeze (T':=T1) (s':=b0::b1::.cells 0 1 (marksC L q)::.dead::rowsF n d m m) 3 0 1 (gapF n m d m) rfl f1 ⟨by simp,?_⟩ rfl) ?_
  · intro j hj hne
    match j,hj,hne with
    | 0,_,_=>exact .inl rfl
    | 1,_,_=>exact .inl rfl
    | 2,_,_=>exact .inl rfl
    | j+4,_,_=>exact .inl rfl
  refine Re.trans (Re.freeze (T':=T2) (s':=b0::b1::.dead::.dead::rowsF n d m m) 2 0 1 (marksC L q) rfl f2 ⟨by simp,?_⟩ rfl) ?_
  · intro j hj hne
    match j,hj,hne with
    | 0,_,_=>exact .inl rfl
    | 1,_,_=>exact .inl rfl
    | 3,_,_=>exact .inl rfl
    | j+4,_,_=>exact .inl rfl
  exact Sub.re ⟨by simpa using hlo,f3,by simp,.inr ⟨by simpa using hu,by simpa using hb⟩⟩
theorem ct_own_ref16_Make {P:Program} {f g1 g2 g3 g4 g5 g6 g7:Nat} {G:Gam} (h:CodeOf P f 2 39 [22002,3] (x_ref16_Make g1 g2 g3 g4 g5 g6 g7)) (hG:GamOk P G) (h1:G.find g1=some S_ref02_Lines) (h2:G.find g2=some S_ref02_Check) (h3:G.find g3=some S_ref03_Names) (h4:G.find g4=some S_ref03_Ids) (h5:G.find g5=some S_ref09_Walk) (h6:G.find g6=some S_ref08_Matched) (h7:G.find g7=some S_ref15_Coalesce):RSpec.Ok P f R_ref16_Make_own:=by
  refine RF.ok h.call fun x hx=>h.rcalls hG rfl ?_
  obtain⟨r,ps⟩:=x
  obtain⟨p1,p2,n1,n2⟩:=hx
  simp only at p1 p2 n1 n2
  have c1:¬(ps.length:Int)<1:=by omega
  have c2:¬32<(ps.length:Int):=by omega
  have ck:∀s:Str,s.length≤100→checkT s=0:=fun s h=>check_of (by omega) (by have:s.count 10≤s.length:=List.count_le_length;omega)
  have ckr:=ck r p1
  have p1':r.length≤4194304:=by omega
  have hmv:∀s:Str,s.length≤100→(linesV s).length≤101:=fun s hs=>by
    have hc:s.count 10≤s.length:=List.count_le_length
    rw[linesV_len]
    split <;> omega
  simp[F_ref16_Make_own,x_ref16_Make,startA,c1,c2,h1,h2,p1',ckr]
  refine vc_lp (σ:=Nat) (fun i=>i≤ps.length) (fun i=>ps.length-i)
    (fun i=>[.any,.d (Rep.to ps),.ref 1 0 0 0,.any,.d (.int .i64 ps.length),.own 2 i 0 (i+1),.any,.d (.int .i64 i),.any,.any,.any,.any,.any,.any,.any,.any,.any,.any,.any,.any,.any,.any,.any,.any,.any,.any,.any,.any,.any,.any,.any,.any,.any,.any,.any,.any,.any,.any,.any])
    (fun i=>[.res,.cells 0 2 [.d (.agg [.int .i64 0,.nilsl])],.cells i 1 (filesC (filesV r ps) (i+1))]) 0 (by simp) (by simp[filesV,filesC]) (by simp) ?_ (hc:=.inl (by simp))
  intro i hi
  by_cases hk:i<ps.length
  · have w1:IntKind.i64.wrap ((i:Int)+1)=(i:Int)+1:=wrap_in (by omega) (by omega)
    have hpi:=p2 _ (List.getElem_mem hk)
    have hpi':ps[i].length≤4194304:=by omega
    have cki:=ck _ hpi
    have hl:(filesC (filesV r ps) (i+1)).length=i+1:=filesC_len (by rw[filesV_len];omega)
    have hs:filesC (filesV r ps) (i+1+1)=filesC (filesV r ps) (i+1)++[.d (.sl 1 ((linesV ps[i]).map Rep.to))]:=by
      rw[filesC_succ (by rw[filesV_len];omega),filesV_succ r ps hk]
    generalize filesC (filesV r ps) (i+1)=fs at *
    simp[hk,getD_map,h1,h2,w1,hpi',cki,hl]
    exact⟨by unfold room;omega,Nxt.mk (i+1) (by omega) (by simp) (by simp[hs]) (by omega) (h4:=.inr ⟨by simp,by simpa using filesC_under _ _ _⟩)⟩
  · have h9:i=ps.length:=by omega
    subst h9
    have hFl:=filesV_len r ps
    have hf:=Fz.own 2 ps.length 1 0 (ps.length+1) (filesC (filesV r ps) (ps.length+1)) (by rw[List.drop_zero,List.take_of_length_le (by rw[filesC_len (by omega)];omega)];exact filesC_isD _ _)
    rw[List.drop_zero,List.take_of_length_le (by rw[filesC_len (by omega)];omega),← hFl,filesC_toD] at hf
    have hF0:∀h:0<(filesV r ps).length,(filesV r ps)[0]'h=linesV r:=fun _=>filesV_zero r ps
    have hI0:=ids0_len r ps
    have hkt:=fun k hk=>kept_text r ps (k:=k) hk
    have hL:=hmv r p1
    rw[show makeV r ps=⟨ps.length,rowsTo (namesV (filesV r ps)) (idsV (filesV r ps)) ps.length ((linesV r).length+1)⟩ from rfl]
    simp
    refine Hint.of (T':=[.any,.any,.ref 1 0 0 0,.any,.d (.int .i64 ps.length),.d (Rep.to (filesV r ps)),.any,.any,.any,.any,.any,.any,.any,.any,.any,.any,.any,.any,.any,.any,.any,.any,.any,.any,.any,.any,.any,.any,.any,.any,.any,.any,.any,.any,.any,.any,.any,.any,.any]) (s':=[.res,.cells 0 2 [.d (.agg [.int .i64 0,.nilsl])]]) (Re.trans (Re.freeze (T':=[.any,.any,.ref 1 0 0 0,.any,.d (.int .i64 ps.length),.d (Rep.to (filesV r ps)),.any,.any,.any,.any,.any,.any,.any,.any,.any,.any,.any,.any,.any,.any,.any,.any,.any,.any,.any,.any,.any,.any,.any,.any,.any,.any,.any,.any,.any,.any,.any,.any,.any]) (s':=[.res,.cells 0 2 [.d (.agg [.int .i64 0,.nilsl])],.dead]) 2 ps.length 1 (filesC (filesV r ps) (ps.length+1)) rfl ?_ ⟨rfl,?_⟩ rfl) (Sub.re ⟨by simp,by simp,by simp,.inr ⟨by simp,by simp⟩⟩)) ?_
    · simp
      rw[hFl] at hf
      simpa using hf
    · intro k hk h0
      match k,hk,h0 with
      | 0,_,_=>exact .inl rfl
      | 1,_,_=>exact .inl rfl
      | k+2,hk,h0=>simp at hk;omega
    have hsm:smallL (filesV r ps):=by
      refine⟨by omega,?_⟩
      have key:∀l:List (List Str),(∀x,x∈l→x.length≤101)→l.flatten.length≤101 * l.length:=by
        intro l
        induction l with
        | nil=>simp
        | cons x r ih =>
          intro hx
          have:=hx x (by simp)
          have:=ih fun y hy=>hx y (by simp[hy])
          simp
          simp at this
          omega
      have:=key (filesV r ps) fun x hx=>by
        obtain⟨y,hy,rfl⟩:=List.mem_map.1 hx
        rcases List.mem_cons.1 hy with rfl | hy
        · exact hL
        · exact hmv _ (p2 _ hy)
      omega
    have hIl:(idsV (filesV r ps)).length=(filesV r ps).length:=by simp[idsV]
    have hIp:∀p,p<ps.length→((idsV (filesV r ps)).getD (p+1) []).length≤101:=fun p hp=>by
      rw[idsV_getD (by rw[hFl];omega),List.length_map,filesV_succ r ps hp]
      exact hmv _ (p2 _ (List.getElem_mem hp))
    have hIm:∀p,p<ps.length→∀x,x∈(idsV (filesV r ps)).getD (p+1) []→∃k:Nat,x=k∧k<(namesV (filesV r ps)).length:=fun p hp x hx=>by
      obtain⟨k,e1,e2,_⟩:=id_name (files:=filesV r ps) (p:=p+1) (by rw[hFl];omega) hx
      exact⟨k,e1,e2⟩
    generalize hI:idsV (filesV r ps)=I at *
    generalize hN:namesV (filesV r ps)=N at *
    generalize filesV r ps=F at *
    generalize hn:ps.length=n at *
    obtain⟨L,hLL⟩:∃L,(linesV r).length=L:=⟨_,rfl⟩
    have h0F:0<F.length:=by omega
    have hF0:=hF0 h0F
    have hF0l:F[0].length=L:=by rw[hF0,hLL]
    simp[h3,h4,hsm,getD_map,hI,hN,hF0l,h0F]
    have wL:IntKind.i64.wrap ((L:Int)+1)=(L:Int)+1:=wrap_in (by omega) (by omega)
    rw[wL]
    have hL1:((L:Int)+1).toNat=L+1:=by omega
    rw[hL1]
    refine⟨⟨by unfold room;omega,by omega⟩,⟨by omega,by unfold room;omega,by omega⟩,?_⟩
    refine vc_lp (σ:=Nat) (fun k=>k≤L+1) (fun k=>L+1-k)
      (fun k=>[.any,.any,.ref 1 0 0 0,.any,.d (.int .i64 n),.d (Rep.to F),.any,.any,.any,.d (Rep.to N),.d (Rep.to I),.d (.int .i64 L),.own 2 0 0 L,.own 3 0 0 (L+1),.d (.int .i64 k),.any,.any,.any,.any,.any,.any,.any,.any,.any,.any,.any,.any,.any,.any,.any,.any,.any,.any,.any,.any,.any,.any,.any,.any])
      (fun k=>.res::.cells 0 2 [.d (.agg [.int .i64 0,.nilsl])]::.cells 0 1 (marksC L fun _=>0)::.cells 0 1 (gapC n (L+1) k)::rowsO n (fun _ _=>.nilsl) k) 0 (by simp) ?_ (by simp) ?_ (hc:=.inl (by simp[rowsO]))
    · have e1:List.replicate L (A.d (D.int .u32 0))=marksC L fun _=>0:=by
        apply List.ext_getElem
        · simp[marksC]
        · intro a b c;simp[marksC]
      have e2:List.replicate (L+1) (A.d D.nilsl)=gapC n (L+1) 0:=by
        apply List.ext_getElem
        · simp[gapC]
        · intro a b c;simp[gapC]
      simp[e1,e2,rowsO]
    intro k hk
    by_cases hkl:k≤L
    · have w1:IntKind.i64.wrap ((k:Int)+1)=(k:Int)+1:=wrap_in (by omega) (by omega)
      have hgl:=gapC_len n (L+1) k
      have hrl:=rowsO_len n (fun _ _=>.nilsl) k
      have hgs:=gapC_set (n:=n) (m:=L+1) (k:=k) (by omega)
      have hrs:=rowsO_succ n (fun _ _=>.nilsl) k
      have hrg:rowG n (fun _ _=>.nilsl) k=List.replicate n (A.d D.nilsl):=by
        apply List.ext_getElem
        · simp[rowG]
        · intro a b c;simp[rowG]
      rw[hrg] at hrs
      generalize rowsO n (fun _ _=>.nilsl) k=R at *
      generalize gapC n (L+1) k=Gc at *
      simp[hkl,w1,hgl,hrl,hgs]
      exact⟨⟨by unfold room;omega,by omega⟩,by omega,by omega,Nxt.mk (k+1) (by omega) (by simp) (by rw[hrs];simp) (by omega) (by simp) (.inl (by simp[hrl,rowsO_len]))⟩
    · have h9:k=L+1:=by omega
      subst h9
      have hw:(marksC L fun _=>0)=marksC L fun k=>markN I k 0:=marksC_congr fun j _=>by simp[markN]
      have hd:rowsO n (fun _ _=>.nilsl) (L+1)=rowsO n (dAt I 0 0) (L+1):=rowsO_congr fun q j _=>(dAt_start I q j).symm
      rw[hw,hd]
      simp[show ¬((L:Int)+1≤L) by omega]
      refine vc_lp (σ:=Nat) (fun p=>p≤n) (fun p=>n-p)
        (fun p=>[.any,.any,.ref 1 0 0 0,.any,.d (.int .i64 n),.d (Rep.to F),.any,.any,.any,.d (Rep.to N),.d (Rep.to I),.d (.int .i64 L),.own 2 0 0 L,.own 3 0 0 (L+1),.any,.d (.int .i64 p),.any,.any,.any,.any,.any,.any,.any,.any,.any,.any,.any,.any,.any,.any,.any,.any,.any,.any,.any,.any,.any,.any,.any])
        (fun p=>.res::.cells 0 2 [.d (.agg [.int .i64 0,.nilsl])]::.cells 0 1 (marksC L fun k=>markN I k p)::.cells 0 1 (gapC n (L+1) (L+1))::rowsO n (dAt I p 0) (L+1)) 0 (by simp) (by simp) (by simp) ?_ (hc:=.inl (by simp))
      intro p hp
      by_cases hpn:p<n
      · have hI0l:I[0].length=L:=by
          rw[← hLL,← hI0]
          simp[List.getD,show 0<I.length by omega]
        have hIpl:I[p+1].length≤101:=by
          have:=hIp p hpn
          simpa [List.getD,show p+1<I.length by omega] using this
        have w1:IntKind.i64.wrap ((p:Int)+1)=(p:Int)+1:=wrap_in (by omega) (by omega)
        have hscr:scriptV I[p+1] I[0]=scrV I p:=by
          unfold scrV
          simp[List.getD,show p+1<I.length by omega,show 0<I.length by omega]
        simp[hpn,w1,getD_map,h5,show p+1<I.length by omega,show 0<I.length by omega,show I[p+1].length≤4096 by omega,show I[0].length≤4096 by omega,hscr]
        have hso:=script_ok (a:=I[p+1]) (b:=I[0]) (by omega) (by omega)
        rw[hscr] at hso
        obtain⟨hck,hmt,_⟩:=hso
        have hck2:=hck
        simp only[checkV,Bool.and_eq_true] at hck2
        obtain⟨_,hok⟩:=hck2
        have hsl:(scrV I p).length≤102:=by
          rw[← hscr]
          have:=scriptV_len I[p+1] I[0]
          omega
        refine⟨by omega,?_⟩
        refine vc_lp (σ:=Nat) (fun k=>k≤L) (fun k=>L-k)
          (fun k=>[.any,.any,.ref 1 0 0 0,.any,.d (.int .i64 n),.d (Rep.to F),.any,.any,.any,.d (Rep.to N),.d (Rep.to I),.d (.int .i64 L),.own 2 0 0 L,.own 3 0 0 (L+1),.any,.d (.int .i64 p),.d (Rep.to (scrV I p)),.d (.int .i64 k),.any,.any,.any,.any,.any,.any,.any,.any,.any,.any,.any,.any,.any,.any,.any,.any,.any,.any,.any,.any,.any])
          (fun k=>.res::.cells 0 2 [.d (.agg [.int .i64 0,.nilsl])]::.cells 0 1 (marksC L fun j=>if j<k then markN I j p ||| 2 ^ p else markN I j p)::.cells 0 1 (gapC n (L+1) (L+1))::rowsO n (dAt I p 0) (L+1)) 0 (by simp) (by simp) (by simp) ?_ (hc:=.inl (by simp))
        intro k hk
        by_cases hkL:k<L
        · have w2:IntKind.i64.wrap ((k:Int)+1)=(k:Int)+1:=wrap_in (by omega) (by omega)
          have hmg:=marksC_get (q:=fun j=>if j<k then markN I j p ||| 2 ^ p else markN I j p) hkL
          have hml:=marksC_len L fun j=>if j<k then markN I j p ||| 2 ^ p else markN I j p
          have hor:=marksV_or (markN I k p) p (markN_lt I k p) (by omega)
          have hms:∀x:Int,x=((markN I k p ||| 2 ^ p:Nat):Int)→(marksC L fun j=>if j<k then markN I j p ||| 2 ^ p else markN I j p).set k (.d (.int .u32 x))=marksC L fun j=>if j<k+1 then markN I j p ||| 2 ^ p else markN I j p:=fun x hx =>
            marksC_set (by rw[hx,if_pos (by omega)]) fun j _ hj=>by
              have:(j<k+1)=(j<k):=by rw[eq_iff_iff];omega
              simp only[this]
          rw[if_neg (by omega)] at hmg
          generalize (marksC L fun j=>if j<k then markN I j p ||| 2 ^ p else markN I j p)=mc at *
          have hmg2:∀h:k<mc.length,mc[k]'h=.d (.int .u32 (markN I k p)):=fun h=>by obtain⟨_,h9⟩:=List.getElem?_eq_some_iff.1 hmg;exact h9
          simp[hkL,hml,hmg,hmg2,u64_wrap (show p<18446744073709551616 by omega),hor,hms _ rfl,w2]
          exact Nxt.mk (k+1) (by omega) (by simp) (by simp) (by omega) (by simp) (.inl (by simp))
        · have h9:k=L:=by omega
          subst h9
          have hmk0:(marksC k fun j=>if j<k then markN I j p ||| 2 ^ p else markN I j p)=marksC k (mkT I p (matV (scrV I p) 0 0 I[p+1].length) 0):=marksC_congr fun j hj=>by simp[hj,mkT]
          rw[hmk0]
          rw[hI0l] at hck hok
          have hck3:∃n,checkV (scrV I p) I[p+1].length n=true:=⟨_,hck⟩
          have hmm:=matV_mem _ _ _ _ _ _ hok
          have hml:=matV_len _ _ _ _ _ _ hok
          have him:=ins_mat _ _ _ _ _ _ hok
          simp[w1,show p+1<I.length by omega,h6,show (scrV I p).length≤100000 by omega,hck3]
          refine⟨by omega,?_⟩
          generalize matV (scrV I p) 0 0 I[p+1].length=pr at *
          refine vc_lp (σ:=Nat) (fun t=>t≤pr.length) (fun t=>pr.length-t)
            (fun t=>[.any,.any,.ref 1 0 0 0,.any,.d (.int .i64 n),.d (Rep.to F),.any,.any,.any,.d (Rep.to N),.d (Rep.to I),.d (.int .i64 k),.own 2 0 0 k,.own 3 0 0 (k+1),.any,.d (.int .i64 p),.d (Rep.to (scrV I p)),.any,.d (Rep.to pr),.d (.int .i64 t),.any,.any,.any,.any,.any,.any,.any,.any,.any,.any,.any,.any,.any,.any,.any,.any,.any,.any,.any])
            (fun t=>.res::.cells 0 2 [.d (.agg [.int .i64 0,.nilsl])]::.cells 0 1 (marksC k (mkT I p pr t))::.cells 0 1 (gapC n (k+1) (k+1))::rowsO n (dAt I p 0) (k+1)) 0 (by simp) (by simp) (by simp) ?_ (hc:=.inl (by simp))
          intro t ht
          by_cases htl:t<pr.length
          · have w2:IntKind.i64.wrap ((t:Int)+1)=(t:Int)+1:=wrap_in (by omega) (by omega)
            obtain⟨_,_,j1,j2⟩:=hmm _ (List.getElem_mem htl)
            obtain⟨j,hj⟩:=Int.eq_ofNat_of_zero_le (show 0≤pr[t].to by omega)
            have hjk:j<k:=by omega
            have hmg:=marksC_get (q:=mkT I p pr t) hjk
            have hml:=marksC_len k (mkT I p pr t)
            have hms:∀x:Int,x=((markN I j p:Nat):Int)→(marksC k (mkT I p pr t)).set j (.d (.int .u32 x))=marksC k (mkT I p pr (t+1)):=fun x hx =>
              marksC_set (by unfold mkT;rw[hx,List.take_succ_eq_append_getElem htl,List.any_append];simp[hj]) fun i _ hi=>by
                have:¬((j:Int)=i):=by omega
                unfold mkT
                rw[List.take_succ_eq_append_getElem htl,List.any_append]
                simp[hj,this]
            obtain⟨v,hv⟩:∃v,mkT I p pr t j=v:=⟨_,rfl⟩
            have hclr:=marksV_clr v (markN I j p) p (markN_lt I j p) (by omega) (by rw[← hv];unfold mkT;split <;> simp)
            simp at hclr
            rw[hv] at hmg
            generalize (marksC k (mkT I p pr t))=mc at *
            have hmg2:∀h:j<mc.length,mc[j]'h=.d (.int .u32 v):=fun h=>by obtain⟨_,h9⟩:=List.getElem?_eq_some_iff.1 hmg;exact h9
            simp[htl,getD_map,hj,hjk,hml,hmg,hmg2,u64_wrap (show p<18446744073709551616 by omega),hclr,hms _ rfl,w2]
            exact Nxt.mk (t+1) (by omega) (by simp) (by simp) (by omega) (by simp) (.inl (by simp))
          · have h9:t=pr.length:=by omega
            subst h9
            have hmk1:marksC k (mkT I p pr pr.length)=marksC k fun j=>markN I j (p+1):=marksC_congr fun j hj=>by
              have:=him j (by omega) (by omega)
              unfold mkT
              rw[List.take_length,markN]
              cases hb:insB (scrV I p) j with
              | false =>
                rw[if_pos,if_neg (by simp)]
                rw[List.any_eq_true]
                obtain⟨s,h8,h9⟩:=this.2 hb
                exact⟨s,h8,by simpa using h9⟩
              | true =>
                rw[if_neg,if_pos rfl]
                rw[List.any_eq_true]
                rintro⟨s,h8,h9⟩
                have:=this.1 ⟨s,h8,by simpa using h9⟩
                rw[hb] at this
                cases this
            rw[hmk1]
            simp
            refine vc_lp (σ:=Nat) (fun c=>c≤(scrV I p).length) (fun c=>(scrV I p).length-c)
              (fun c=>[.any,.any,.ref 1 0 0 0,.any,.d (.int .i64 n),.d (Rep.to F),.any,.any,.any,.d (Rep.to N),.d (Rep.to I),.d (.int .i64 k),.own 2 0 0 k,.own 3 0 0 (k+1),.any,.d (.int .i64 p),.d (Rep.to (scrV I p)),.any,.any,.any,.d (.int .i64 c),.any,.any,.any,.any,.any,.any,.any,.any,.any,.any,.any,.any,.any,.any,.any,.any,.any,.any])
              (fun c=>.res::.cells 0 2 [.d (.agg [.int .i64 0,.nilsl])]::.cells 0 1 (marksC k fun j=>markN I j (p+1))::.cells 0 1 (gapC n (k+1) (k+1))::rowsO n (dAt I p c) (k+1)) 0 (by simp) (by simp) (by simp) ?_ (hc:=.inl (by simp[rowsO_len]))
            intro c hc
            by_cases hcl:c<(scrV I p).length
            · have w2:IntKind.i64.wrap ((c:Int)+1)=(c:Int)+1:=wrap_in (by omega) (by omega)
              obtain⟨_,m2⟩:=okV_new _ _ _ _ _ _ hok
              obtain⟨m3,m4,m5,m6,m7,m8⟩:=m2 _ (List.getElem_mem hcl)
              obtain⟨j,hj⟩:=Int.eq_ofNat_of_zero_le m3
              obtain⟨o,ho⟩:=Int.eq_ofNat_of_zero_le m6
              obtain⟨ol,hol⟩:=Int.eq_ofNat_of_zero_le m7
              obtain⟨st1,st2⟩:=dAt_step hcl hj
              have hgg:=gapC_get (n:=n) (m:=k+1) (k:=k+1) (j:=j) (by omega) (by omega)
              have hgl:=gapC_len n (k+1) (k+1)
              have hrg:=rowsO_get (n:=n) (d:=dAt I p c) (m:=k+1) (k:=j) (by omega)
              have hrl:=rowsO_len n (dAt I p c) (k+1)
              have hrw:=rowG_len n (dAt I p c) j
              have hrs:=rowsO_set (n:=n) (m:=k+1) (d:=dAt I p c) (e:=dAt I p (c+1)) (p:=p) (k:=j) hpn st1 fun q i _ hqi=>st2 q i hqi
              have hgD:I.getD (p+1) []=I[p+1]:=by simp[List.getD,show p+1<I.length by omega]
              rw[hgD,ho,hol] at hrs
              simp at hrs
              have hgg2:∀h:j<(gapC n (k+1) (k+1)).length,(gapC n (k+1) (k+1))[j]'h=.own (j+4) 0 0 n:=fun h=>by obtain⟨_,h9⟩:=List.getElem?_eq_some_iff.1 hgg;exact h9
              have hrg2:∀h:j<(rowsO n (dAt I p c) (k+1)).length,(rowsO n (dAt I p c) (k+1))[j]'h=.cells 0 1 (rowG n (dAt I p c) j):=fun h=>by obtain⟨_,h9⟩:=List.getElem?_eq_some_iff.1 hrg;exact h9
              have w3:IntKind.i64.wrap ((o:Int)+ol)=(o:Int)+ol:=wrap_in (by omega) (by omega)
              simp[hcl,getD_map,hj,ho,hol,w1,w2,w3,show p+1<I.length by omega,hgg,hgg2,hgl,hrg,hrg2,hrl,hrw,hpn,hrs,show j<k+1 by omega,show ((o:Int)+ol).toNat-o=ol by omega]
              exact⟨by omega,by omega,by omega,Nxt.mk (c+1) (by omega) (by simp) (by simp) (by omega) (by simp) (.inl (by simp[rowsO_len]))⟩
            · have h9:c=(scrV I p).length:=by omega
              subst h9
              have hde:rowsO n (dAt I p (scrV I p).length) (k+1)=rowsO n (dAt I (p+1) 0) (k+1):=rowsO_congr fun q j _=>dAt_end I p q j
              rw[hde]
              simp[w1]
              exact Nxt.mk (p+1) (by omega) (by simp) (by simp) (by omega) (by simp) (.inl (by simp[rowsO_len]))
      · have h9:p=n:=by omega
        subst h9
        simp
        refine Hint.of (T':=[.any,.any,.ref 1 0 0 0,.any,.d (.int .i64 p),.d (Rep.to F),.any,.any,.any,.d (Rep.to N),.any,.d (.int .i64 L),.d (.sl 1 (((List.range L).map fun k=>(⟨markN I k p⟩:U32T)).map Rep.to)),.d (.sl 1 (rowsD p (dAt I p 0) (L+1))),.any,.any,.any,.any,.any,.any,.any,.any,.any,.any,.any,.any,.any,.any,.any,.any,.any,.any,.any,.any,.any,.any,.any,.any,.any]) (s':=[.res,.cells 0 2 [.d (.agg [.int .i64 0,.nilsl])]]) (freezeAll2 (by simp) _ _ L p (L+1) (fun k=>markN I k p) (dAt I p 0) ?_ ?_ ?_) ?_
        · refine⟨[.any,.any,.ref 1 0 0 0,.any,.d (.int .i64 p),.d (Rep.to F),.any,.any,.any,.d (Rep.to N),.any,.d (.int .i64 L),.own 2 0 0 L,.d (.sl 1 (rowsD p (dAt I p 0) (L+1))),.any,.any,.any,.any,.any,.any,.any,.any,.any,.any,.any,.any,.any,.any,.any,.any,.any,.any,.any,.any,.any,.any,.any,.any,.any],?_,[.any,.any,.ref 1 0 0 0,.any,.d (.int .i64 p),.d (Rep.to F),.any,.any,.any,.d (Rep.to N),.any,.d (.int .i64 L),.d (.sl 1 (((List.range L).map fun k=>(⟨markN I k p⟩:U32T)).map Rep.to)),.d (.sl 1 (rowsD p (dAt I p 0) (L+1))),.any,.any,.any,.any,.any,.any,.any,.any,.any,.any,.any,.any,.any,.any,.any,.any,.any,.any,.any,.any,.any,.any,.any,.any,.any],?_,?_⟩
          · simp
            simpa using fz_gaps p (L+1) (dAt I p 0)
          · simp
            simpa using fz_marks L fun k=>markN I k p
          · simp
        · simp
        · exact⟨rfl,rfl⟩
        simp
        refine vc_lpR (σ:=Nat) (fun k=>k≤L+1) (fun k=>L+1-k)
          (fun k=>[.any,.any,.ref 1 0 0 0,.any,.d (.int .i64 p),.d (Rep.to F),.any,.any,.any,.d (Rep.to N),.any,.d (.int .i64 L),.d (.sl 1 (((List.range L).map fun k=>(⟨markN I k p⟩:U32T)).map Rep.to)),.d (.sl 1 (rowsD p (dAt I p 0) (L+1))),.any,.any,.any,.any,.any,.any,.any,.ref 2 0 0 0,.d (.int .i64 k),.any,.any,.any,.any,.any,.any,.any,.any,.any,.any,.any,.any,.any,.any,.any,.any])
          (fun k=>[.res,.cells 0 2 [.d (.agg [.int .i64 0,.nilsl])],.cells 0 2 [.agg [.d (.int .i64 p),.own 3 (rowsTo N I p k).length 0 (rowsTo N I p k).length]],.cells (rowsTo N I p k).length 3 (rowsA (rowsTo N I p k))]) 0 ?_ (by simp) ?_
        · refine Re.weak (k:=[.cells 0 3 []]) (s':=[.res,.cells 0 2 [.d (.agg [.int .i64 0,.nilsl])],.cells 0 2 [.agg [.d (.int .i64 p),.own 3 0 0 0]]]) (by simp) (by simp) (by simp) ⟨.inl rfl,.inl rfl,.cellsL ?_,trivial⟩
          simp
          exact Wk.freshO 3 [.cells 0 3 []] 3 0 rfl
        intro k hk
        have hBn:101 * p≤4096:=by omega
        have hp32:p≤32:=by omega
        have hrl:=rowsTo_len (N:=N) hIp hp32 hBn
        by_cases hkL:k≤L
        · have w1:IntKind.i64.wrap ((k:Int)+1)=(k:Int)+1:=wrap_in (by omega) (by omega)
          have hrd:=rowsD_get (n:=p) (d:=dAt I p 0) (m:=L+1) (k:=k) (by omega)
          have hrdl:(rowsD p (dAt I p 0) (L+1)).length=L+1:=by simp[rowsD]
          have hrd2:∀h:k<(rowsD p (dAt I p 0) (L+1)).length,(rowsD p (dAt I p 0) (L+1))[k]'h=.sl 1 (rowD p (dAt I p 0) k):=fun h=>by obtain⟨_,h9⟩:=List.getElem?_eq_some_iff.1 hrd;exact h9
          have hof:=rowD_of I p k
          have hgl:=gapV_len I p k
          have hsu:=sumL_gap hIp k
          obtain⟨hco,hcok⟩:=merged_ok (xs:=gapV I p k) (by omega) (by omega)
          have hml:=hcok.len
          have hmm:=fun m hm=>merged_line hIp hp32 hBn (k:=k) (m:=m) hm
          have hrs:=rowsTo_succ N I p k
          unfold gapRows at hrs
          rw[hI0] at hrs
          simp[hkL,hrd,hrd2,hrdl,h7,hof,hco,show sumL (gapV I p k)≤4096 by omega,show (gapV I p k).length≤1048576 by omega]
          refine⟨by omega,?_⟩
          generalize mergedV (gapV I p k)=ml at *
          have hrk:=hrl k
          have hk101:(rowsTo N I p k).length≤4097 * 101:=by omega
          rw[← rowsIn_zero N I p k ml]
          refine vc_lp (σ:=Nat) (fun i=>i≤ml.length) (fun i=>ml.length-i)
            (fun i=>[.any,.any,.ref 1 0 0 0,.any,.d (.int .i64 p),.d (Rep.to F),.any,.any,.any,.d (Rep.to N),.any,.d (.int .i64 L),.d (.sl 1 (((List.range L).map fun k=>(⟨markN I k p⟩:U32T)).map Rep.to)),.d (.sl 1 (rowsD p (dAt I p 0) (L+1))),.any,.any,.any,.any,.any,.any,.any,.ref 2 0 0 0,.d (.int .i64 k),.d (Rep.to ml),.any,.d (.int .i64 i),.any,.any,.any,.any,.any,.any,.any,.any,.any,.any,.any,.any,.any])
            (fun i=>[.res,.cells 0 2 [.d (.agg [.int .i64 0,.nilsl])],.cells 0 2 [.agg [.d (.int .i64 p),.own 3 (rowsIn N I p k ml i).length 0 (rowsIn N I p k ml i).length]],.cells (rowsIn N I p k ml i).length 3 (rowsA (rowsIn N I p k ml i))]) 0 (by simp) (by simp) (by simp) ?_ (hc:=.inl (by simp))
          intro i hi
          by_cases hil:i<ml.length
          · have w2:IntKind.i64.wrap ((i:Int)+1)=(i:Int)+1:=wrap_in (by omega) (by omega)
            obtain⟨b,hb,hbm⟩:=hmm _ (List.getElem_mem hil)
            obtain⟨j,hj,hjN⟩:=hIm b hb _ hbm
            have hst:=rowsIn_succ N I p k hil
            have hsl:=rowsIn_len N I p k hi
            have hlr:lostRow N ml[i]=⟨true,ml[i].parents,N[j]⟩:=by unfold lostRow;rw[hj];simp[List.getD,hjN]
            rw[hlr] at hst
            simp[hil,getD_map,hj,hjN,w2,hsl]
            exact⟨by unfold room;omega,Nxt.mk (i+1) (by omega) (by simp) (by simp[hst,hsl,rowsA_snoc]) (by omega) (by simp) (.inr ⟨by simp,by have:=rowsA_under (rowsIn N I p k ml (i+1)) 4;simpa using this⟩)⟩
          · have h9:i=ml.length:=by omega
            subst h9
            have hsl:=rowsIn_len N I p k (Nat.le_refl ml.length)
            have hre:rowsIn N I p k ml ml.length=rowsTo N I p k++ml.map (lostRow N):=by unfold rowsIn;rw[List.take_length]
            by_cases hkl:k<L
            · have hrs2:rowsTo N I p (k+1)=rowsIn N I p k ml ml.length++[keptRow N I p k]:=by rw[hrs,if_pos (by omega),hre,List.append_assoc]
              have hkr:keptRow N I p k=⟨false,markN I k p,F[0][k]'(by omega)⟩:=by
                unfold keptRow
                rw[(hkt k (by omega)).1]
                congr 1
                simp[hF0]
              rw[hkr] at hrs2
              have hl2:(rowsTo N I p (k+1)).length=(rowsTo N I p k).length+ml.length+1:=by rw[hrs2];simp[hsl]
              simp[hkl,getD_map,w1,hF0l,h0F,hsl,show ¬L≤k by omega]
              exact⟨by unfold room;omega,Nxt.mk (k+1) (by omega) (by simp) (by simp[hrs2,hsl,rowsA_snoc]) (by omega) (by simp) (.inr ⟨by simp,by have:=rowsA_under (rowsTo N I p (k+1)) 4;simpa using this⟩)⟩
            · have hrs2:rowsTo N I p (k+1)=rowsIn N I p k ml ml.length:=by rw[hrs,if_neg (by omega),hre,List.append_nil]
              simp[w1,show ¬k<L by omega]
              exact Nxt.mk (k+1) (by omega) (by simp) (by simp[hrs2]) (by omega) (by simp) (.inr ⟨by simp,by have:=rowsA_under (rowsTo N I p (k+1)) 4;simpa using this⟩)
        · have h9:k=L+1:=by omega
          subst h9
          rw[hLL]
          generalize rowsTo N I p (L+1)=rr at *
          simp[show ¬((L:Int)+1≤L) by omega]
          refine⟨by simp[resPre,resE],[3],rfl,⟨by decide,by simp,?_⟩,fun k hk=>?_,?_,?_,by simp[A.under,A.unders]⟩
          · simp[pickS,Ob.ren,rowsA_ren]
            simpa using rowsA_under rr 1
          · match k,hk with
            | 0,_=>exact .inr rfl
          · simp[pickS,Ob.ren,rowsA_ren]
          · simp[resOf,resE,A.ren,A.rens,idxIn] <;> rfl
theorem rowsA_get {l:List RowT} {i:Nat} (h:i<l.length):(rowsA l)[i]?=some (.d (.agg [.bool l[i].lost,.int .u32 l[i].marks,.str l[i].text])):=by simp[rowsA,h]
def rowC (x:RowT):A:=.agg [.d (.bool x.lost),.d (.int .u32 x.marks),.d (.str x.text)]
theorem flen_set:∀(l:List RowT) (i:Nat) (x:RowT),flen ((l.set i x).map RowT.text)≤flen (l.map RowT.text)+x.text.length
  | [],i,x=>by simp[flen]
  | a::l,0,x=>by simp[flen];omega
  | a::l,i+1,x=>by
    have:=flen_set l i x
    unfold flen at *
    simp only[List.set_cons_succ,List.map_cons,List.flatten_cons,List.length_append]
    omega
theorem u32_range (x:Int):0≤IntKind.u32.wrap x∧IntKind.u32.wrap x<4294967296:=by
  simp only[IntKind.wrap,IntKind.bits,IntKind.signed]
  simp
  omega
theorem setA_ok {l:List RowT} {i:Nat} {x:RowT} (hi:i<l.length) (hx:rowOk x) (hl:l.length≤15190) (hr:∀r,r∈l→rowOk r) (hf:flen (l.map RowT.text)+x.text.length≤4194304) :
    ((rowsA l).set i (rowC x)).all A.isD=true∧(∀y,y∈(rowsA l).set i (rowC x)→A.under 3 y=true)∧((rowsA l).set i (rowC x)).map A.toD=(l.set i x).map Rep.to∧∀pu:Int,tabOk ⟨pu,l.set i x⟩:=by
  refine⟨?_,fun y hy=>?_,?_,fun pu=>⟨by simp only[List.length_set];omega,fun r h=>?_,Nat.le_trans (flen_set l i x) hf⟩⟩
  · rw[List.all_eq_true]
    intro y hy
    rcases List.mem_or_eq_of_mem_set hy with h | h
    · obtain⟨z,_,rfl⟩:=List.mem_map.1 h
      rfl
    · subst h;rfl
  · rcases List.mem_or_eq_of_mem_set hy with h | h
    · obtain⟨z,_,rfl⟩:=List.mem_map.1 h
      rfl
    · subst h;rfl
  · rw[List.map_set,List.map_set]
    have:(rowsA l).map A.toD=l.map Rep.to:=by
      unfold rowsA
      rw[List.map_map]
      rfl
    rw[this]
    rfl
  · rcases List.mem_or_eq_of_mem_set h with h | h
    · exact hr r h
    · subst h;exact hx
theorem keepA_ok {l:List RowT} (hl:l.length≤15190) (hr:∀r,r∈l→rowOk r) (hf:flen (l.map RowT.text)≤4194304) :
    (rowsA l).all A.isD=true∧(∀y,y∈rowsA l→A.under 3 y=true)∧(rowsA l).map A.toD=l.map Rep.to∧∀pu:Int,tabOk ⟨pu,l⟩:=by
  refine⟨?_,fun y hy=>?_,?_,fun pu=>⟨by simp only;omega,hr,hf⟩⟩
  · rw[List.all_eq_true]
    intro y hy
    obtain⟨z,_,rfl⟩:=List.mem_map.1 hy
    rfl
  · obtain⟨z,_,rfl⟩:=List.mem_map.1 hy
    rfl
  · unfold rowsA
    rw[List.map_map]
    rfl
@[simp] def S_law16_WeaveChecks:List D→Prop × D:=spec6 (α:=TableT) (β:=List Int) (γ:=Int) (δ:=Int) (ε:=Int) (ζ:=Int) (fun t raw _ _ _ _=>tabBig t∧raw.length≤9223372036854775807) (fun _ _ _ _ _ _=>.bool true)
theorem ct_law16_WeaveChecks {P:Program} {f g1 g2 g3 g4 g5 g6 g7 g8 g9:Nat} {G:Gam} (h:CodeOf P f 6 23 [7] (x_law16_WeaveChecks g1 g2 g3 g4 g5 g6 g7 g8 g9)) (hG:GamOk P G) (h1:G.find g1=some S_law16_awake) (h2:G.find g2=some S_law16_pick) (h3:G.find g3=some S_gen_Mod) (h4:G.find g4=some S_ref02_Bare) (h5:G.find g5=some S_weave_Visible) (h6:G.find g6=some S_ref16_Visible) (h7:G.find g7=some S_weave_Check) (h8:G.find g8=some S_ref16_Check) (h9:G.findR g9=some R_ref16_Make_own):Has P f S_law16_WeaveChecks:=h.has6 hG fun t raw n what aa bb hp=>by
  obtain⟨hokt,p1⟩:=hp
  obtain⟨pt,rt⟩:=t
  have hrt:=hokt.1
  simp only at hrt
  by_cases c1:15<(rt.length:Int)
  · simp[x_law16_WeaveChecks,h1,c1]
  have hokt:tabWide ⟨pt,rt⟩:=hokt.wide (by simp only;omega)
  obtain⟨hs,hpl⟩:=pickP_ok raw n
  have hn:=pickN_in n
  have hpre:=small_pre hs
  generalize hpk:pickP raw n=pk at *
  obtain⟨r,ps⟩:=pk
  simp only at hs hpre hpl
  have hlen:=make_len hs
  have hb3:=Nat.mul_le_mul (show (60+1) * ps.length+1≤245 by omega) (Nat.le_refl (60+2))
  have hrl:(makeV r ps).rows.length≤15190:=by omega
  have hpp:r.length≤100∧(∀p,p∈ps→p.length≤100)∧1≤ps.length∧ps.length≤32:=⟨hpre.1,hpre.2,by omega,by omega⟩
  have hrow:∀x,x∈(makeV r ps).rows→rowOk x:=fun x hx=>by
    obtain⟨k,e1,e2,_⟩:=make_marks hs hx
    have h3:=pow_le hs.n2
    unfold rowOk
    rw[e1]
    omega
  have htx:∀x,x∈(makeV r ps).rows→x.text.length≤60:=fun x hx=>(make_text hs hx).2
  have hfl0:=flen_leB (B:=60) (makeV r ps).rows htx
  obtain⟨w1',w2'⟩:=modV_lt what (n:=6) (by omega)
  obtain⟨v1',v2'⟩:=modV_lt bb (n:=36) (by omega)
  obtain⟨u1',u2'⟩:=modV_lt bb (n:=6) (by omega)
  obtain⟨x1',x2'⟩:=modV_lt bb (n:=5) (by omega)
  simp[x_law16_WeaveChecks,c1,h2,p1,hpk,h9,eRCall,F_ref16_Make_own,hpp,rowsA_ren]
  generalize (makeV r ps).rows=rows at *
  refine⟨⟨hpre.2,fun x hx=>?_⟩,fun hl0=>?_,fun hl0=>?_⟩
  · obtain⟨y,_,rfl⟩:=List.mem_map.1 hx
    rfl
  · obtain⟨i1,i2⟩:=modV_lt aa (n:=(rows.length:Int)) (by omega)
    obtain⟨i,hi⟩:=Int.eq_ofNat_of_zero_le i1
    have hil:i<rows.length:=by omega
    have hg:=rowsA_get hil
    have hg2:∀h:i<(rowsA rows).length,(rowsA rows)[i]'h=.d (.agg [.bool rows[i].lost,.int .u32 rows[i].marks,.str rows[i].text]):=fun h=>by obtain⟨_,h9⟩:=List.getElem?_eq_some_iff.1 hg;exact h9
    have hri:=hrow _ (List.getElem_mem hil)
    have hti:=htx _ (List.getElem_mem hil)
    have hb63:((rows.length:Nat):Int)≤9223372036854775807:=by omega
    have wu:IntKind.u64.wrap (modV bb 6)=modV bb 6:=by obtain⟨z,hz⟩:=Int.eq_ofNat_of_zero_le u1';rw[hz];exact u64_wrap (by omega)
    have w5:IntKind.i64.wrap (modV bb 5-2)=modV bb 5-2:=wrap_in (by omega) (by omega)
    have w6:IntKind.i64.wrap ((ps.length:Int)+(modV bb 5-2))=(ps.length:Int)+(modV bb 5-2):=wrap_in (by omega) (by omega)
    have hbl:=bareV_le rows[i].text
    by_cases q0:modV what 6=0
    · simp[h3,h4,hi,hil,hg,hg2,hl0,hb63,wu,w5,w6,u1',show rows[i].text.length≤9223372036854775807 by omega,q0]
      refine⟨by omega,?_⟩
      obtain⟨Y,hY⟩:∃Y,IntKind.u32.wrap ↑((rows[i].marks % 2 ^ IntKind.u32.bits).toNat ^^^ (IntKind.u32.wrap (2 ^ min (modV bb 6).toNat IntKind.u32.bits) % 2 ^ IntKind.u32.bits).toNat)=Y:=⟨_,rfl⟩
      rw[hY]
      have hYr:0≤Y∧Y<4294967296:=by rw[← hY];exact u32_range _
      obtain⟨ru,hru⟩:∃ru,ru=rows.set i ⟨rows[i].lost,Y,rows[i].text⟩:=⟨_,rfl⟩
      obtain⟨pu,hpu⟩:∃pu:Int,pu=(ps.length:Int):=⟨_,rfl⟩
      obtain⟨W,hWW⟩:∃W,W=(rowsA rows).set i (rowC ⟨rows[i].lost,Y,rows[i].text⟩):=⟨_,rfl⟩
      have hWl:W.length=rows.length:=by rw[hWW];simp
      have hWf:=setA_ok (l:=rows) (x:=⟨rows[i].lost,Y,rows[i].text⟩) hil (hYr) hrl hrow (by simp only;omega)
      rw[← hWW,← hru] at hWf
      obtain⟨hWd,hWu,hW3,hfl⟩:=hWf
      unfold rowC at hWW
      simp only at hWW
      rw[← hWW]
      have hpu2:(ps.length:Int)=pu:=hpu.symm
      simp only[hpu2]
      have hoku:tabOk ⟨pu,ru⟩:=hfl pu
      refine vc_lp (σ:=Nat) (fun c=>c≤rt.length) (fun c=>rt.length-c)
        (fun c=>[.any,.any,.any,.any,.any,.d (.int .i64 bb),.ref 0 0 0 0,.any,.any,.any,.ref 2 0 0 0,.any,.d (.int .i64 c),.any,.any,.any,.any,.any,.any,.any,.any,.any,.any])
        (fun _=>[.cells 0 2 [.d (Rep.to (⟨pt,rt⟩:TableT))],.cells rows.length 3 W,.cells 0 2 [.agg [.d (.int .i64 pu),.own 1 rows.length 0 rows.length]]]) 0 (by simp) (by simp) (by simp) ?_ (hc:=.inr ⟨by simp,by simpa using hWu⟩)
      intro c hc
      by_cases hcl:c<rt.length
      · have w1:IntKind.i64.wrap ((c:Int)+1)=(c:Int)+1:=wrap_in (by omega) (by omega)
        simp[hcl,getD_map,h5,h6,h3,w1]
        exact Nxt.mk (c+1) (by omega) (by simp) (by simp) (by omega) (by simp) (.inl (by simp))
      · have h9:c=rt.length:=by omega
        subst h9
        have e1:List.take rows.length W=W:=List.take_of_length_le (by omega)
        have e2:ofAll (Rep.of (α:=RowT)) (W.map A.toD)=some ru:=by rw[hW3,ofAll_to]
        simp
        refine Hint.of (T':=[.any,.any,.any,.any,.any,.any,.ref 0 0 0 0,.any,.any,.any,.ref 2 0 0 0,.any,.any,.any,.any,.any,.any,.any,.any,.any,.any,.any,.any]) (s':=[.cells 0 2 [.d (Rep.to (⟨pt,rt⟩:TableT))],.dead,.cells 0 2 [.agg [.d (.int .i64 pu),.d (.sl 3 (ru.map Rep.to))]]]) (Re.freeze 1 rows.length 3 W rfl (by simp) ⟨rfl,?_⟩ rfl) ?_
        · have hf:=Fz.own 1 rows.length 3 0 rows.length W (by rw[List.drop_zero,e1];exact hWd)
          rw[List.drop_zero,e1,hW3] at hf
          intro j hj hne
          have hj3:j<3:=hj
          match j,hj3,hne with
          | 0,_,_=>exact .inl rfl
          | 2,_,_ =>
            refine .inr ⟨0,2,_,_,rfl,rfl,rfl,fun i hi=>?_⟩
            simp at hi
            subst hi
            exact⟨rfl,Fz.refl _ _ _ _ _,hf,trivial⟩
        · simp[h7,h8,hokt,hoku,h1]
    by_cases q1:modV what 6=1
    · simp[h3,h4,hi,hil,hg,hg2,hl0,hb63,wu,w5,w6,u1',show rows[i].text.length≤9223372036854775807 by omega,q1]
      refine⟨by omega,?_⟩
      obtain⟨ru,hru⟩:∃ru,ru=rows.set i ⟨!rows[i].lost,rows[i].marks,rows[i].text⟩:=⟨_,rfl⟩
      obtain⟨pu,hpu⟩:∃pu:Int,pu=(ps.length:Int):=⟨_,rfl⟩
      obtain⟨W,hWW⟩:∃W,W=(rowsA rows).set i (rowC ⟨!rows[i].lost,rows[i].marks,rows[i].text⟩):=⟨_,rfl⟩
      have hWl:W.length=rows.length:=by rw[hWW];simp
      have hWf:=setA_ok (l:=rows) (x:=⟨!rows[i].lost,rows[i].marks,rows[i].text⟩) hil (hri) hrl hrow (by simp only;omega)
      rw[← hWW,← hru] at hWf
      obtain⟨hWd,hWu,hW3,hfl⟩:=hWf
      unfold rowC at hWW
      simp only at hWW
      rw[← hWW]
      have hpu2:(ps.length:Int)=pu:=hpu.symm
      simp only[hpu2]
      have hoku:tabOk ⟨pu,ru⟩:=hfl pu
      refine vc_lp (σ:=Nat) (fun c=>c≤rt.length) (fun c=>rt.length-c)
        (fun c=>[.any,.any,.any,.any,.any,.d (.int .i64 bb),.ref 0 0 0 0,.any,.any,.any,.ref 2 0 0 0,.any,.d (.int .i64 c),.any,.any,.any,.any,.any,.any,.any,.any,.any,.any])
        (fun _=>[.cells 0 2 [.d (Rep.to (⟨pt,rt⟩:TableT))],.cells rows.length 3 W,.cells 0 2 [.agg [.d (.int .i64 pu),.own 1 rows.length 0 rows.length]]]) 0 (by simp) (by simp) (by simp) ?_ (hc:=.inr ⟨by simp,by simpa using hWu⟩)
      intro c hc
      by_cases hcl:c<rt.length
      · have w1:IntKind.i64.wrap ((c:Int)+1)=(c:Int)+1:=wrap_in (by omega) (by omega)
        simp[hcl,getD_map,h5,h6,h3,w1]
        exact Nxt.mk (c+1) (by omega) (by simp) (by simp) (by omega) (by simp) (.inl (by simp))
      · have h9:c=rt.length:=by omega
        subst h9
        have e1:List.take rows.length W=W:=List.take_of_length_le (by omega)
        have e2:ofAll (Rep.of (α:=RowT)) (W.map A.toD)=some ru:=by rw[hW3,ofAll_to]
        simp
        refine Hint.of (T':=[.any,.any,.any,.any,.any,.any,.ref 0 0 0 0,.any,.any,.any,.ref 2 0 0 0,.any,.any,.any,.any,.any,.any,.any,.any,.any,.any,.any,.any]) (s':=[.cells 0 2 [.d (Rep.to (⟨pt,rt⟩:TableT))],.dead,.cells 0 2 [.agg [.d (.int .i64 pu),.d (.sl 3 (ru.map Rep.to))]]]) (Re.freeze 1 rows.length 3 W rfl (by simp) ⟨rfl,?_⟩ rfl) ?_
        · have hf:=Fz.own 1 rows.length 3 0 rows.length W (by rw[List.drop_zero,e1];exact hWd)
          rw[List.drop_zero,e1,hW3] at hf
          intro j hj hne
          have hj3:j<3:=hj
          match j,hj3,hne with
          | 0,_,_=>exact .inl rfl
          | 2,_,_ =>
            refine .inr ⟨0,2,_,_,rfl,rfl,rfl,fun i hi=>?_⟩
            simp at hi
            subst hi
            exact⟨rfl,Fz.refl _ _ _ _ _,hf,trivial⟩
        · simp[h7,h8,hokt,hoku,h1]
    by_cases q2:modV what 6=2
    · simp[h3,h4,hi,hil,hg,hg2,hl0,hb63,wu,w5,w6,u1',show rows[i].text.length≤9223372036854775807 by omega,q2]
      refine⟨by omega,?_⟩
      obtain⟨ru,hru⟩:∃ru,ru=rows.set i ⟨rows[i].lost,rows[i].marks,bareV rows[i].text⟩:=⟨_,rfl⟩
      obtain⟨pu,hpu⟩:∃pu:Int,pu=(ps.length:Int):=⟨_,rfl⟩
      obtain⟨W,hWW⟩:∃W,W=(rowsA rows).set i (rowC ⟨rows[i].lost,rows[i].marks,bareV rows[i].text⟩):=⟨_,rfl⟩
      have hWl:W.length=rows.length:=by rw[hWW];simp
      have hWf:=setA_ok (l:=rows) (x:=⟨rows[i].lost,rows[i].marks,bareV rows[i].text⟩) hil (hri) hrl hrow (by simp only;omega)
      rw[← hWW,← hru] at hWf
      obtain⟨hWd,hWu,hW3,hfl⟩:=hWf
      unfold rowC at hWW
      simp only at hWW
      rw[← hWW]
      have hpu2:(ps.length:Int)=pu:=hpu.symm
      simp only[hpu2]
      have hoku:tabOk ⟨pu,ru⟩:=hfl pu
      refine vc_lp (σ:=Nat) (fun c=>c≤rt.length) (fun c=>rt.length-c)
        (fun c=>[.any,.any,.any,.any,.any,.d (.int .i64 bb),.ref 0 0 0 0,.any,.any,.any,.ref 2 0 0 0,.any,.d (.int .i64 c),.any,.any,.any,.any,.any,.any,.any,.any,.any,.any])
        (fun _=>[.cells 0 2 [.d (Rep.to (⟨pt,rt⟩:TableT))],.cells rows.length 3 W,.cells 0 2 [.agg [.d (.int .i64 pu),.own 1 rows.length 0 rows.length]]]) 0 (by simp) (by simp) (by simp) ?_ (hc:=.inr ⟨by simp,by simpa using hWu⟩)
      intro c hc
      by_cases hcl:c<rt.length
      · have w1:IntKind.i64.wrap ((c:Int)+1)=(c:Int)+1:=wrap_in (by omega) (by omega)
        simp[hcl,getD_map,h5,h6,h3,w1]
        exact Nxt.mk (c+1) (by omega) (by simp) (by simp) (by omega) (by simp) (.inl (by simp))
      · have h9:c=rt.length:=by omega
        subst h9
        have e1:List.take rows.length W=W:=List.take_of_length_le (by omega)
        have e2:ofAll (Rep.of (α:=RowT)) (W.map A.toD)=some ru:=by rw[hW3,ofAll_to]
        simp
        refine Hint.of (T':=[.any,.any,.any,.any,.any,.any,.ref 0 0 0 0,.any,.any,.any,.ref 2 0 0 0,.any,.any,.any,.any,.any,.any,.any,.any,.any,.any,.any,.any]) (s':=[.cells 0 2 [.d (Rep.to (⟨pt,rt⟩:TableT))],.dead,.cells 0 2 [.agg [.d (.int .i64 pu),.d (.sl 3 (ru.map Rep.to))]]]) (Re.freeze 1 rows.length 3 W rfl (by simp) ⟨rfl,?_⟩ rfl) ?_
        · have hf:=Fz.own 1 rows.length 3 0 rows.length W (by rw[List.drop_zero,e1];exact hWd)
          rw[List.drop_zero,e1,hW3] at hf
          intro j hj hne
          have hj3:j<3:=hj
          match j,hj3,hne with
          | 0,_,_=>exact .inl rfl
          | 2,_,_ =>
            refine .inr ⟨0,2,_,_,rfl,rfl,rfl,fun i hi=>?_⟩
            simp at hi
            subst hi
            exact⟨rfl,Fz.refl _ _ _ _ _,hf,trivial⟩
        · simp[h7,h8,hokt,hoku,h1]
    by_cases q3:modV what 6=3
    · simp[h3,h4,hi,hil,hg,hg2,hl0,hb63,wu,w5,w6,u1',show rows[i].text.length≤9223372036854775807 by omega,q3]
      refine⟨by omega,by omega,?_⟩
      obtain⟨ru,hru⟩:∃ru,ru=rows.set i ⟨rows[i].lost,rows[i].marks,rows[i].text++[113,10]⟩:=⟨_,rfl⟩
      obtain⟨pu,hpu⟩:∃pu:Int,pu=(ps.length:Int):=⟨_,rfl⟩
      obtain⟨W,hWW⟩:∃W,W=(rowsA rows).set i (rowC ⟨rows[i].lost,rows[i].marks,rows[i].text++[113,10]⟩):=⟨_,rfl⟩
      have hWl:W.length=rows.length:=by rw[hWW];simp
      have hWf:=setA_ok (l:=rows) (x:=⟨rows[i].lost,rows[i].marks,rows[i].text++[113,10]⟩) hil (hri) hrl hrow (by simp;omega)
      rw[← hWW,← hru] at hWf
      obtain⟨hWd,hWu,hW3,hfl⟩:=hWf
      unfold rowC at hWW
      simp only at hWW
      rw[← hWW]
      have hpu2:(ps.length:Int)=pu:=hpu.symm
      simp only[hpu2]
      have hoku:tabOk ⟨pu,ru⟩:=hfl pu
      refine vc_lp (σ:=Nat) (fun c=>c≤rt.length) (fun c=>rt.length-c)
        (fun c=>[.any,.any,.any,.any,.any,.d (.int .i64 bb),.ref 0 0 0 0,.any,.any,.any,.ref 2 0 0 0,.any,.d (.int .i64 c),.any,.any,.any,.any,.any,.any,.any,.any,.any,.any])
        (fun _=>[.cells 0 2 [.d (Rep.to (⟨pt,rt⟩:TableT))],.cells rows.length 3 W,.cells 0 2 [.agg [.d (.int .i64 pu),.own 1 rows.length 0 rows.length]]]) 0 (by simp) (by simp) (by simp) ?_ (hc:=.inr ⟨by simp,by simpa using hWu⟩)
      intro c hc
      by_cases hcl:c<rt.length
      · have w1:IntKind.i64.wrap ((c:Int)+1)=(c:Int)+1:=wrap_in (by omega) (by omega)
        simp[hcl,getD_map,h5,h6,h3,w1]
        exact Nxt.mk (c+1) (by omega) (by simp) (by simp) (by omega) (by simp) (.inl (by simp))
      · have h9:c=rt.length:=by omega
        subst h9
        have e1:List.take rows.length W=W:=List.take_of_length_le (by omega)
        have e2:ofAll (Rep.of (α:=RowT)) (W.map A.toD)=some ru:=by rw[hW3,ofAll_to]
        simp
        refine Hint.of (T':=[.any,.any,.any,.any,.any,.any,.ref 0 0 0 0,.any,.any,.any,.ref 2 0 0 0,.any,.any,.any,.any,.any,.any,.any,.any,.any,.any,.any,.any]) (s':=[.cells 0 2 [.d (Rep.to (⟨pt,rt⟩:TableT))],.dead,.cells 0 2 [.agg [.d (.int .i64 pu),.d (.sl 3 (ru.map Rep.to))]]]) (Re.freeze 1 rows.length 3 W rfl (by simp) ⟨rfl,?_⟩ rfl) ?_
        · have hf:=Fz.own 1 rows.length 3 0 rows.length W (by rw[List.drop_zero,e1];exact hWd)
          rw[List.drop_zero,e1,hW3] at hf
          intro j hj hne
          have hj3:j<3:=hj
          match j,hj3,hne with
          | 0,_,_=>exact .inl rfl
          | 2,_,_ =>
            refine .inr ⟨0,2,_,_,rfl,rfl,rfl,fun i hi=>?_⟩
            simp at hi
            subst hi
            exact⟨rfl,Fz.refl _ _ _ _ _,hf,trivial⟩
        · simp[h7,h8,hokt,hoku,h1]
    by_cases q4:modV what 6=4
    · simp[h3,h4,hi,hil,hg,hg2,hl0,hb63,wu,w5,w6,u1',show rows[i].text.length≤9223372036854775807 by omega,q4]
      refine⟨by omega,?_⟩
      obtain⟨ru,hru⟩:∃ru,ru=rows:=⟨_,rfl⟩
      obtain⟨pu,hpu⟩:∃pu:Int,pu=(ps.length:Int)+(modV bb 5-2):=⟨_,rfl⟩
      obtain⟨W,hWW⟩:∃W,W=rowsA rows:=⟨_,rfl⟩
      have hWl:W.length=rows.length:=by rw[hWW];simp
      have hWf:=keepA_ok hrl hrow (by omega)
      rw[← hWW,← hru] at hWf
      obtain⟨hWd,hWu,hW3,hfl⟩:=hWf
      rw[← hWW]
      have hpu2:(ps.length:Int)+(modV bb 5-2)=pu:=hpu.symm
      simp only[hpu2]
      have hoku:tabOk ⟨pu,ru⟩:=hfl pu
      refine vc_lp (σ:=Nat) (fun c=>c≤rt.length) (fun c=>rt.length-c)
        (fun c=>[.any,.any,.any,.any,.any,.d (.int .i64 bb),.ref 0 0 0 0,.any,.any,.any,.ref 2 0 0 0,.any,.d (.int .i64 c),.any,.any,.any,.any,.any,.any,.any,.any,.any,.any])
        (fun _=>[.cells 0 2 [.d (Rep.to (⟨pt,rt⟩:TableT))],.cells rows.length 3 W,.cells 0 2 [.agg [.d (.int .i64 pu),.own 1 rows.length 0 rows.length]]]) 0 (by simp) (by simp) (by simp) ?_ (hc:=.inr ⟨by simp,by simpa using hWu⟩)
      intro c hc
      by_cases hcl:c<rt.length
      · have w1:IntKind.i64.wrap ((c:Int)+1)=(c:Int)+1:=wrap_in (by omega) (by omega)
        simp[hcl,getD_map,h5,h6,h3,w1]
        exact Nxt.mk (c+1) (by omega) (by simp) (by simp) (by omega) (by simp) (.inl (by simp))
      · have h9:c=rt.length:=by omega
        subst h9
        have e1:List.take rows.length W=W:=List.take_of_length_le (by omega)
        have e2:ofAll (Rep.of (α:=RowT)) (W.map A.toD)=some ru:=by rw[hW3,ofAll_to]
        simp
        refine Hint.of (T':=[.any,.any,.any,.any,.any,.any,.ref 0 0 0 0,.any,.any,.any,.ref 2 0 0 0,.any,.any,.any,.any,.any,.any,.any,.any,.any,.any,.any,.any]) (s':=[.cells 0 2 [.d (Rep.to (⟨pt,rt⟩:TableT))],.dead,.cells 0 2 [.agg [.d (.int .i64 pu),.d (.sl 3 (ru.map Rep.to))]]]) (Re.freeze 1 rows.length 3 W rfl (by simp) ⟨rfl,?_⟩ rfl) ?_
        · have hf:=Fz.own 1 rows.length 3 0 rows.length W (by rw[List.drop_zero,e1];exact hWd)
          rw[List.drop_zero,e1,hW3] at hf
          intro j hj hne
          have hj3:j<3:=hj
          match j,hj3,hne with
          | 0,_,_=>exact .inl rfl
          | 2,_,_ =>
            refine .inr ⟨0,2,_,_,rfl,rfl,rfl,fun i hi=>?_⟩
            simp at hi
            subst hi
            exact⟨rfl,Fz.refl _ _ _ _ _,hf,trivial⟩
        · simp[h7,h8,hokt,hoku,h1]
    · simp[h3,h4,hi,hil,hg,hg2,hl0,hb63,wu,w5,w6,u1',show rows[i].text.length≤9223372036854775807 by omega,q0,q1,q2,q3,q4]
      refine⟨by omega,?_⟩
      obtain⟨ru,hru⟩:∃ru,ru=rows:=⟨_,rfl⟩
      obtain⟨pu,hpu⟩:∃pu:Int,pu=(ps.length:Int):=⟨_,rfl⟩
      obtain⟨W,hWW⟩:∃W,W=rowsA rows:=⟨_,rfl⟩
      have hWl:W.length=rows.length:=by rw[hWW];simp
      have hWf:=keepA_ok hrl hrow (by omega)
      rw[← hWW,← hru] at hWf
      obtain⟨hWd,hWu,hW3,hfl⟩:=hWf
      rw[← hWW]
      have hpu2:(ps.length:Int)=pu:=hpu.symm
      simp only[hpu2]
      have hoku:tabOk ⟨pu,ru⟩:=hfl pu
      refine vc_lp (σ:=Nat) (fun c=>c≤rt.length) (fun c=>rt.length-c)
        (fun c=>[.any,.any,.any,.any,.any,.d (.int .i64 bb),.ref 0 0 0 0,.any,.any,.any,.ref 2 0 0 0,.any,.d (.int .i64 c),.any,.any,.any,.any,.any,.any,.any,.any,.any,.any])
        (fun _=>[.cells 0 2 [.d (Rep.to (⟨pt,rt⟩:TableT))],.cells rows.length 3 W,.cells 0 2 [.agg [.d (.int .i64 pu),.own 1 rows.length 0 rows.length]]]) 0 (by simp) (by simp) (by simp) ?_ (hc:=.inr ⟨by simp,by simpa using hWu⟩)
      intro c hc
      by_cases hcl:c<rt.length
      · have w1:IntKind.i64.wrap ((c:Int)+1)=(c:Int)+1:=wrap_in (by omega) (by omega)
        simp[hcl,getD_map,h5,h6,h3,w1]
        exact Nxt.mk (c+1) (by omega) (by simp) (by simp) (by omega) (by simp) (.inl (by simp))
      · have h9:c=rt.length:=by omega
        subst h9
        have e1:List.take rows.length W=W:=List.take_of_length_le (by omega)
        have e2:ofAll (Rep.of (α:=RowT)) (W.map A.toD)=some ru:=by rw[hW3,ofAll_to]
        simp
        refine Hint.of (T':=[.any,.any,.any,.any,.any,.any,.ref 0 0 0 0,.any,.any,.any,.ref 2 0 0 0,.any,.any,.any,.any,.any,.any,.any,.any,.any,.any,.any,.any]) (s':=[.cells 0 2 [.d (Rep.to (⟨pt,rt⟩:TableT))],.dead,.cells 0 2 [.agg [.d (.int .i64 pu),.d (.sl 3 (ru.map Rep.to))]]]) (Re.freeze 1 rows.length 3 W rfl (by simp) ⟨rfl,?_⟩ rfl) ?_
        · have hf:=Fz.own 1 rows.length 3 0 rows.length W (by rw[List.drop_zero,e1];exact hWd)
          rw[List.drop_zero,e1,hW3] at hf
          intro j hj hne
          have hj3:j<3:=hj
          match j,hj3,hne with
          | 0,_,_=>exact .inl rfl
          | 2,_,_ =>
            refine .inr ⟨0,2,_,_,rfl,rfl,rfl,fun i hi=>?_⟩
            simp at hi
            subst hi
            exact⟨rfl,Fz.refl _ _ _ _ _,hf,trivial⟩
        · simp[h7,h8,hokt,hoku,h1]
  · have hl0':rows.length=0:=by simpa using hl0
    clear hl0
    obtain⟨ru,hru⟩:∃ru,ru=rows:=⟨_,rfl⟩
    obtain⟨pu,hpu⟩:∃pu:Int,pu=(ps.length:Int):=⟨_,rfl⟩
    obtain⟨W,hWW⟩:∃W,W=rowsA rows:=⟨_,rfl⟩
    have hWl:W.length=rows.length:=by rw[hWW];simp
    have hWf:=keepA_ok hrl hrow (by omega)
    rw[← hWW,← hru] at hWf
    obtain⟨hWd,hWu,hW3,hfl⟩:=hWf
    rw[← hWW]
    have hpu2:(ps.length:Int)=pu:=hpu.symm
    simp only[hpu2]
    have hoku:tabOk ⟨pu,ru⟩:=hfl pu
    refine vc_lp (σ:=Nat) (fun c=>c≤rt.length) (fun c=>rt.length-c)
      (fun c=>[.any,.any,.any,.any,.any,.d (.int .i64 bb),.ref 0 0 0 0,.any,.any,.any,.ref 2 0 0 0,.any,.d (.int .i64 c),.any,.any,.any,.any,.any,.any,.any,.any,.any,.any])
      (fun _=>[.cells 0 2 [.d (Rep.to (⟨pt,rt⟩:TableT))],.cells rows.length 3 W,.cells 0 2 [.agg [.d (.int .i64 pu),.own 1 rows.length 0 rows.length]]]) 0 (by simp) (by simp) (by simp) ?_ (hc:=.inr ⟨by simp,by simpa using hWu⟩)
    intro c hc
    by_cases hcl:c<rt.length
    · have w1:IntKind.i64.wrap ((c:Int)+1)=(c:Int)+1:=wrap_in (by omega) (by omega)
      simp[hcl,getD_map,h5,h6,h3,w1]
      exact Nxt.mk (c+1) (by omega) (by simp) (by simp) (by omega) (by simp) (.inl (by simp))
    · have h9:c=rt.length:=by omega
      subst h9
      have e1:List.take rows.length W=W:=List.take_of_length_le (by omega)
      have e2:ofAll (Rep.of (α:=RowT)) (W.map A.toD)=some ru:=by rw[hW3,ofAll_to]
      simp
      refine Hint.of (T':=[.any,.any,.any,.any,.any,.any,.ref 0 0 0 0,.any,.any,.any,.ref 2 0 0 0,.any,.any,.any,.any,.any,.any,.any,.any,.any,.any,.any,.any]) (s':=[.cells 0 2 [.d (Rep.to (⟨pt,rt⟩:TableT))],.dead,.cells 0 2 [.agg [.d (.int .i64 pu),.d (.sl 3 (ru.map Rep.to))]]]) (Re.freeze 1 rows.length 3 W rfl (by simp) ⟨rfl,?_⟩ rfl) ?_
      · have hf:=Fz.own 1 rows.length 3 0 rows.length W (by rw[List.drop_zero,e1];exact hWd)
        rw[List.drop_zero,e1,hW3] at hf
        intro j hj hne
        have hj3:j<3:=hj
        match j,hj3,hne with
        | 0,_,_=>exact .inl rfl
        | 2,_,_ =>
          refine .inr ⟨0,2,_,_,rfl,rfl,rfl,fun i hi=>?_⟩
          simp at hi
          subst hi
          exact⟨rfl,Fz.refl _ _ _ _ _,hf,trivial⟩
      · simp[h7,h8,hokt,hoku,h1]
theorem law16_WeaveChecks_pre (t:TableT) (raw:List Int) (n:Int) (w:Int) (a:Int) (b:Int) (w0:Arg.wf t) (w1:Arg.wf raw) (w2:Arg.wf n) (w3:Arg.wf w) (w4:Arg.wf a) (w5:Arg.wf b):tabBig t∧raw.length≤9223372036854775807:=⟨tab_wf w0,len_wf w1⟩
end Go.AE
