/-
  Law 02: the law of limits.
-/
import Derived.Test.YthbniojgdkjjiaaDoorConb1

set_option linter.unusedSimpArgs false
set_option linter.unusedVariables false
set_option linter.unnecessarySimpa false
set_option maxRecDepth 20000
set_option maxHeartbeats 4000000
namespace Go.AE
def byteC (t:Str):List A:=(bytesD t).map .d
theorem byteC_len (t:Str):(byteC t).length=t.length:=by simp[byteC,bytesD]
theorem byteC_set (t:Str) (i:Nat) (c:UInt8) (k:Int) (hk:k=c.toNat):(byteC t).set i (.d (.int .u8 k))=byteC (t.set i c):=by
  subst hk
  simp[byteC,bytesD,List.map_set]
theorem byteC_rep (n:Nat) (c:UInt8) (k:Int) (hk:k=c.toNat):List.replicate n (.d (.int .u8 k))=byteC (List.replicate n c):=by
  subst hk
  simp[byteC,bytesD]
theorem eB2s_own (s:Store) (l v n:Nat) (t:Str) (hn:n=t.length) (h:s.getD l .dead=.cells v 1 (byteC t)):eB2s s (.own l v 0 n)=⟨True,[(l,.cells v 1 (byteC t))],.d (.str t)⟩:=by
  subst hn
  have e1:(byteC t).take t.length=byteC t:=List.take_of_length_le (by rw[byteC_len];exact Nat.le_refl _)
  have e2:(byteC t).all A.isD=true:=by
    rw[List.all_eq_true]
    intro y hy
    obtain⟨x,_,rfl⟩:=List.mem_map.1 hy
    rfl
  have e3:(byteC t).map A.toD=bytesD t:=by
    simp[byteC,Function.comp_def,A.toD]
  have e4:allU8 (bytesD t)=True:=eq_true (allU8_bytes t)
  unfold eB2s src borFp
  simp only[h]
  simp[e1,e2,e3,e4,A.notStr,u8s_bytes]
theorem fill_set (N i:Nat) (h:i<N):(List.replicate i (10:UInt8)++List.replicate (N-i) 0).set i 10=List.replicate (i+1) 10++List.replicate (N-(i+1)) 0:=by
  obtain⟨k,rfl⟩:∃k,N=i+1+k:=⟨N-i-1,by omega⟩
  rw[show i+1+k-i=k+1 by omega,show i+1+k-(i+1)=k by omega,List.set_append_right _ _ (by simp),List.length_replicate,Nat.sub_self,List.replicate_succ,List.set_cons_zero]
  simp[List.replicate_succ',List.append_assoc]
theorem linesF_rep10:∀(n:Nat),linesF [] (List.replicate n 10)=List.replicate n [10]
  | 0=>by simp[linesF]
  | n+1=>by simp[List.replicate_succ,linesF,linesF_rep10 n]
theorem linesF_rep0:∀(n:Nat) (cur:Str),linesF cur (List.replicate n 0)=linesF (cur++List.replicate n 0) []
  | 0,cur=>by simp
  | n+1,cur=>by
    have e:linesF cur (0::List.replicate n 0)=linesF (cur++[0]) (List.replicate n 0):=by simp[linesF]
    rw[List.replicate_succ,e,linesF_rep0 n]
    congr 1
    simp
theorem lines10 (n:Nat):linesV (List.replicate n 10)=List.replicate n [10]:=linesF_rep10 n
theorem lines0 (n:Nat) (h:0<n):linesV (List.replicate n 0)=[List.replicate n 0]:=by
  rw[linesV,linesF_rep0,List.nil_append,linesF,if_neg]
  intro h2
  have:=congrArg List.length h2
  simp at this
  omega
@[simp] def S_law02_TextLimits:List D→Prop × D:=spec2 (α:=Bool) (β:=Bool) (fun _ _=>True) (fun _ _=>.bool true)
theorem law02_TextLimits_pre (more:Bool) (wide:Bool) (w0:Arg.wf more) (w1:Arg.wf wide):True:=trivial
theorem vc_mid {G:Gam} {lo:Nat} {a b:XC} {Q:XE→List A→Store→Prop} {T:List A} {s:Store} (T':List A) (s':Store) (h:vc G lo a (fun e T s=>e=.normal∧T=T'∧s=s') T s) (k:vc G lo b Q T' s'):vc G lo (.seq a b) Q T s:=by
  rw[vc_seq]
  refine vc_mono _ _ _ _ _ (fun e T s h=>?_) h
  obtain⟨rfl,rfl,rfl⟩:=h
  exact k
theorem limits_tail {G:Gam} {g1 g2 g3:Nat} (h1:G.find g1=some S_text_Split) (h2:G.find g2=some S_text_Check) (h3:G.find g3=some S_law02_awake) (more wide:Bool) (N:Nat) (hN:N=if more then 4097 else 4096) :
    ∀xc,(∃a b c,x_law02_TextLimits g1 g2 g3=.seq a (.seq b (.seq c xc)))→vc G 0 xc (Fin [2] (.bool true)) [.d (.bool more),.d (.bool wide),.d (.bool false),.d (.int .i64 N),.any,.any,.any,.any,.any,.d (.bool more),.any,.any,.any] []:=by
  rintro xc ⟨a,b,c,hx⟩
  simp only[x_law02_TextLimits,XC.seq.injEq] at hx
  obtain⟨_,_,_,rfl⟩:=hx
  have hN1:4096≤N∧N≤4097:=by cases more <;> simp at hN <;> omega
  simp[-List.reduceReplicate]
  refine⟨⟨by unfold room;omega,by omega⟩,?_⟩
  rw[byteC_rep N 0 0 rfl]
  refine vc_lp (σ:=Nat) (fun i=>i≤N) (fun i=>N-i) (fun i=>[.d (.bool more),.d (.bool wide),.any,.d (.int .i64 N),.own 0 0 0 N,.d (.int .i64 i),.any,.any,.any,.any,.any,.any,.any]) (fun i=>[.cells 0 1 (byteC (List.replicate i 10++List.replicate (N-i) 0))]) 0 (by simp) (by simp) (by simp) ?_
  intro i i1
  by_cases hi:i<N
  · have w1:IntKind.i64.wrap ((i:Int)+1)=(i:Int)+1:=wrap_in (by omega) (by omega)
    have hl:(byteC (List.replicate i 10++List.replicate (N-i) 0)).length=N:=by rw[byteC_len];simp;omega
    have hs:=byteC_set (List.replicate i 10++List.replicate (N-i) 0) i 10 10 rfl
    rw[fill_set N i hi] at hs
    simp[hi,w1,hl,hs]
    exact Nxt.mk (i+1) (by omega) (by simp) (by simp) (by omega)
  · obtain rfl:i=N:=by omega
    have e0:List.replicate i (10:UInt8)++List.replicate (i-i) 0=List.replicate i 10:=by simp
    rw[e0]
    have hc10:(linesV (List.replicate i 10)).length=i:=by rw[lines10];simp
    have hc0:linesV (List.replicate (1048576+i-4096) 0)=[List.replicate (1048576+i-4096) 0]:=lines0 _ (by omega)
    have hs1:=eB2s_own [.cells 0 1 (byteC (List.replicate i 10))] 0 0 i (List.replicate i 10) (by simp) rfl
    have hs2:=eB2s_own [.cells 0 1 (byteC (List.replicate i 10)),.cells 0 1 (byteC (List.replicate (1048576+i-4096) 0))] 1 0 (1048576+i-4096) (List.replicate (1048576+i-4096) 0) (by simp) rfl
    have ww:IntKind.i64.wrap (1048576+(i:Int))=1048576+i:=wrap_in (by omega) (by omega)
    have ww2:IntKind.i64.wrap (1048576+(i:Int)-4096)=((1048576+i-4096:Nat):Int):=by rw[wrap_in (by omega) (by omega)];omega
    have hk:1048576≤1048576+i-4096∧1048576+i-4096≤1048577:=by omega
    cases wide with
    | false =>
      cases more with
      | false =>
        simp at hN
        have ck:checkT (List.replicate i 10)=0:=by unfold checkT;rw[if_pos];rw[hc10];simp;omega
        have sp:=splitD_ok ck
        simp[-List.reduceReplicate,h1,h2,h3,hs1,ck,sp,hc10,lenOk]
        omega
      | true =>
        simp at hN
        have ck:checkT (List.replicate i 10)=1:=by unfold checkT;rw[if_neg];rw[hc10];simp;omega
        have sp:splitD (List.replicate i 10)=.tup [.nilsl,.int .i64 1]:=by unfold splitD;rw[ck];rfl
        simp[-List.reduceReplicate,h1,h2,h3,hs1,ck,sp,lenOk]
        omega
    | true =>
      simp[-List.reduceReplicate,ww,ww2]
      rw[byteC_rep (1048576+i-4096) 0 0 rfl]
      generalize hq:1048576+i-4096=q at *
      cases more with
      | false =>
        simp at hN
        have ck:checkT (List.replicate q 0)=0:=by unfold checkT;rw[if_pos];rw[hc0];simp;omega
        have sp:=splitD_ok ck
        simp[-List.reduceReplicate,h1,h2,h3,hs2,ck,sp,hc0,lenOk]
        exact⟨⟨by unfold room;omega,by omega⟩,by omega⟩
      | true =>
        simp at hN
        have ck:checkT (List.replicate q 0)=1:=by unfold checkT;rw[if_neg];simp;omega
        have sp:splitD (List.replicate q 0)=.tup [.nilsl,.int .i64 1]:=by unfold splitD;rw[ck];rfl
        simp[-List.reduceReplicate,h1,h2,h3,hs2,ck,sp,lenOk]
        exact⟨⟨by unfold room;omega,by omega⟩,by omega⟩
theorem ct_law02_TextLimits {P:Program} {f g1 g2 g3:Nat} {G:Gam} (h:CodeOf P f 2 13 [2] (x_law02_TextLimits g1 g2 g3)) (hG:GamOk P G) (h1:G.find g1=some S_text_Split) (h2:G.find g2=some S_text_Check) (h3:G.find g3=some S_law02_awake):Has P f S_law02_TextLimits:=h.has2 hG fun more wide hp=>by
  have k:=limits_tail h1 h2 h3 more wide _ rfl
  cases more with
  | true =>
    have w0:IntKind.i64.wrap 4097=4097:=wrap_in (by omega) (by omega)
    refine vc_mid [.d (.bool true),.d (.bool wide),.d (.bool false),.any,.any,.any,.any,.any,.any,.any,.any,.any,.any] [] (by simp) (vc_mid [.d (.bool true),.d (.bool wide),.d (.bool false),.d (.int .i64 4096),.any,.any,.any,.any,.any,.any,.any,.any,.any] [] (by simp) (vc_mid _ _ (by simp[w0]) (k _ ⟨_,_,_,rfl⟩)))
  | false =>
    refine vc_mid [.d (.bool false),.d (.bool wide),.d (.bool false),.any,.any,.any,.any,.any,.any,.any,.any,.any,.any] [] (by simp) (vc_mid [.d (.bool false),.d (.bool wide),.d (.bool false),.d (.int .i64 4096),.any,.any,.any,.any,.any,.any,.any,.any,.any] [] (by simp) (vc_mid _ _ (by simp) (k _ ⟨_,_,_,rfl⟩)))
end Go.AE
