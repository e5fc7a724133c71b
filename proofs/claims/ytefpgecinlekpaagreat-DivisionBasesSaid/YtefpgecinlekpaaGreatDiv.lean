/- Package integer: division by one word, shifts. -/
import Derived.Test.YtefpgecinlekpaaGreatInt
set_option maxHeartbeats 16000000
set_option maxRecDepth 100000
namespace Go.Num
theorem set_rep {α:Type}(z x:α):∀(i:Nat) (l:List α),(List.replicate (i+1) z++l).set i x=List.replicate i z++x::l
 |0,l=>rfl
 |i+1,l=>by
  rw[List.replicate_succ,ZR,List.set_cons_succ,set_rep z x i l]
  rfl
theorem get_rep {α:Type}(z:α)(i:Nat)(l:List α):(List.replicate (i+1) z++l)[i]? =some z:=by
 rw[Zy (by simp),YF,if_pos (by omega)]
theorem div_step {a X d:Nat}(hd:0<d):(a+4294967296*X) / d=(X%d*4294967296+a) / d+4294967296*(X / d)/\(a+4294967296*X)%d=(X%d*4294967296+a)%d:=by
 have h:=Ym X d
 have e:a+4294967296*X=(X%d*4294967296+a)+d*(4294967296*(X / d)):=by
  have :4294967296*X=4294967296*(d*(X / d))+4294967296*(X%d):=by rw[<-Nat.mul_add,h]
  have e2:d*(4294967296*(X / d))=4294967296*(d*(X / d)):=by rw[<-Yj,ZE d,Yj]
  rw[e2,this]
  omega
 rw[e]
 exact⟨by rw[Nat.add_mul_div_left _ _ hd],by rw[Nat.add_mul_mod_self_left]⟩
theorem digit_lt {r a d:Nat}(hr:r<d)(ha:a<4294967296):(r*4294967296+a) / d<4294967296:=by
 apply Yb
 have:=Zn 4294967296 (Nat.succ_le_of_lt hr)
 rw[Nat.succ_mul]at this
 omega
theorem digit_mod {q Y:Nat}(h:q<4294967296):(q+4294967296*Y)%4294967296=q/\(q+4294967296*Y) / 4294967296=Y:=by omega
end Go.Num
namespace Go.Proofs.YtefpgecinlekpaaGreat
open Go.Ev Go.Num
theorem shl64 {a:Nat}(h:a<4294967296):binShl .u64 (.ofNat a) (.ofNat 32)=some (.p (.int .u64 (.ofNat (a*4294967296)))):=by
 show some (DL.p (.int .u64 (Xd .u64 (.ofNat (a*2^(Nat.min 32 64))))))=_
 rw[wrap_u64]
 congr 3
 show Int.ofNat (a*4294967296%18446744073709551616)=_
 rw[Zd (by omega)]
theorem or64 {a w:Nat}(ha:a<4294967296)(hw:w<4294967296):VA .u64 (Nat.lor (X7 .u64 (.ofNat (a*4294967296))) (X7 .u64 (.ofNat w)))=.ofNat (a*4294967296+w):=by
 have e1:X7 .u64 (.ofNat (a*4294967296))=2^32*a:=by show a*4294967296%18446744073709551616=_;omega
 have e2:X7 .u64 (.ofNat w)=w:=by show w%18446744073709551616=_;omega
 have e3:Nat.lor (2^32*a) w=2^32*a+w:=(Nat.two_pow_add_eq_or_of_lt (by simpa using hw) a).symm
 rw[e1,e2,e3]
 show Int.ofNat (2^32*a+w)=_
 congr 1;omega
theorem pI_succ (n:Nat):pI (n+1)=.ofNat n:=rfl
theorem pI_zero:pI 0=.negSucc 0:=rfl
theorem divS_loop {E:Oracle}{K:Nat}{la:PL}{a:List Nat}(sa:SlW la a)(da:Dig a)(hl:a.length<1000000000000){d:Nat}(hd0:0<d)(hd:d<4294967296)(t:Nat):∀(i:Nat),i<=a.length->∀(k:Nat),i<k->
  ∃T',Xa E K 0 [0,1,6,7,8] x204_1 k ⟨[(0,.one (.p la)),(1,.one (.p (.int .u64 (.ofNat d)))),(6,.one (.own 0 0 0 a.length)),(7,.one (.p (.int .u64 (.ofNat (val (a.drop i)%d))))),(8,.one (.p (.int .i64 (pI i))))],[⟨false,0,1,wsD (List.replicate i 0++dg (a.length-i) (val (a.drop i) / d)),false,t⟩]⟩=
   some (.exit 0,⟨T',[⟨false,0,1,wsD (dg a.length (val a / d)),false,t⟩]⟩)/\Xf T' 6=some (.one (.own 0 0 0 a.length))/\Xf T' 7=some (.one (.p (.int .u64 (.ofNat (val a%d)))))
 |_,_,0,h=>by omega
 |0,_,k+1,_=>by
  apply ex1
  ·rw[Xa]
   simp only[EVS,EVN,reduceIte,Nat.reduceEqDiff,x204_1,pI_zero,Nat.sub_zero]
   rfl
  ·simp only[EVS,reduceIte,Nat.reduceEqDiff,and_self]
 |i+1,hi,k+1,hk=>by
  obtain⟨T',g1,g2⟩:=divS_loop (E:=E) (K:=K) sa da hl hd0 hd t i (by omega) k (by omega)
  refine⟨T',?_,g2⟩
  obtain⟨w,hw⟩:∃w,a[i]? =some w:=⟨_,Zf (by omega)⟩
  have hw2:=da.get hw
  have hx:i<a.length:=by omega
  have hr:=ZN (val (a.drop (i+1))) hd0
  obtain⟨d1,d2⟩:=div_step (a:=w) (X:=val (a.drop (i+1))) hd0
  have hq:=digit_lt hr hw2
  obtain⟨m,hm⟩:∃m,a.length-i=m+1:=⟨a.length-i-1,by omega⟩
  have hm2:a.length-(i+1)=m:=by omega
  rw[val_drop hw,d1,d2,hm,dg]at g1
  rw[hm2]
  generalize val (a.drop (i+1))=X at *
  obtain⟨e1,e2⟩:=digit_mod (Y:=X / d) hq
  rw[e1,e2]at g1
  obtain⟨d',rfl⟩:∃d',d=d'+1:=⟨d-1,by omega⟩
  generalize hR:X%(d'+1)=r at *
  have hr2:r<4294967296:=by omega
  have f1:w%18446744073709551616=w:=Zd (by omega)
  have f2:(r*4294967296+w) / (d'+1)%18446744073709551616%4294967296=(r*4294967296+w) / (d'+1):=by omega
  have f3:(r*4294967296+w) / (d'+1)%18446744073709551616=(r*4294967296+w) / (d'+1):=by omega
  have f4:(r*4294967296+w) / (d'+1)%4294967296=(r*4294967296+w) / (d'+1):=by omega
  have f5:Xd .i64 (.ofNat i-.ofNat 1)=pI i:=WV (by omega)
  have f6:=XB (get_rep 0 i (dg m (X / (d'+1))))
  rw[Xa]
  simp only[EVS,EVN,reduceIte,Nat.reduceEqDiff,Nat.reduceLeDiff,Zr,x204_1,pI_succ,sa.idx hw,shl64 hr2,f1,or64 hr2 hw2,f3,f4,f5,f6,hx,X5,set_rep]
  exact g1
theorem dg_top {ws:List Nat}(h:Dig ws){d:Nat}:val (dg ws.length (val ws / d))=val ws / d:=val_dg (Z5 (Nat.div_le_self ..) (Wf h))
theorem divS_ret {B:Base}(hB:Std B){la:PL}{a:List Nat}(sa:SlW la a)(da:Dig a)(hl:a.length<1000000000000){d:Nat}(hd0:0<d)(hd:d<4294967296):
  Ret B 204 [.one la,.one (.int .u64 (.ofNat d))] (.tup [.one (.lst (wsP (Xc (val a / d)))),.one (.int .u64 (.ofNat (val a%d)))]):=by
 have h1:=U2 hB (ws:=dg a.length (val a / d)) (by rw[XH];omega)
 rw[VG (dg_dig _ _) (dg_top da)]at h1
 refine Ret.of (hB.tab _ _ rfl) (((Evt.ge (a.length+1)).and (h1.evt.and hB.evt)).mono fun E K ⟨hK,e1,hm⟩=> ?_)
 obtain⟨T',g1,g2,g3⟩:=divS_loop (E:=E) (K:=K) sa da hl hd0 hd 161 a.length (Zg _) K (by omega)
 rw[List.drop_length,YN]at g1
 have z1:val []%d=0:=Nat.zero_mod d
 have z2:∀v,List.replicate a.length 0++dg 0 v=List.replicate a.length 0:=fun v=>ZO _
 rw[z1,z2]at g1
 have f2:4*a.length<=lim:=by unfold lim;omega
 have f3:a.length<=9223372036854775807:=by omega
 have f4:Xd .i64 (.ofNat a.length-.ofNat 1)=pI a.length:=WV (by omega)
 simp only[EVS,EVN,reduceIte,Nat.reduceEqDiff,Nat.reduceLeDiff,Nat.reduceAdd,x204,sa.len,f2,f3,f4,Zg,VU,g1,g2,g3,VY _ (YG (XH a.length (val a / d))),Ws,XH,Vb,Vl,hm,MDS,e1]
theorem shrN {t s:Nat}(hs:s<32):Sf .u64 (.ofNat t) (.ofNat s)=some (.p (.int .u64 (.ofNat (t / 2^s)))):=by
 show some (DL.p (.int .u64 (.ofNat (t / 2^(Nat.min s 64)))))=_
 rw[show Nat.min s 64=s from Yg (by omega)]
theorem pow_lt {s:Nat}(hs:s<32):2^s<4294967296:=by
 have :(2:Nat)^s<2^32:=Nat.pow_lt_pow_right (by decide) hs
 simpa using this
theorem shlN {w s:Nat}(hw:w<4294967296)(hs:s<32):binShl .u64 (.ofNat w) (.ofNat s)=some (.p (.int .u64 (.ofNat (w*2^s)))):=by
 show some (DL.p (.int .u64 (Xd .u64 (.ofNat (w*2^(Nat.min s 64))))))=_
 rw[show Nat.min s 64=s from Yg (by omega),wrap_u64]
 have:=Nat.mul_lt_mul'' hw (pow_lt hs)
 rw[Zd (by omega)]
theorem maskN {s:Nat}(hs:s<32):Xd .u64 (.ofNat (1*2^s)-.ofNat 1)=.ofNat (2^s-1):=by
 have h1:0<2^s:=Nat.pow_pos (by decide)
 have h2:=pow_lt hs
 rw[Z9,Um h1,wrap_u64,Zd (by omega)]
theorem andN {t s:Nat}(ht:t<18446744073709551616)(hs:s<32):VA .u64 (Nat.land (X7 .u64 (.ofNat t)) (X7 .u64 (.ofNat (2^s-1))))=.ofNat (t%2^s):=by
 have h2:=pow_lt hs
 have e1:X7 .u64 (.ofNat t)=t:=by show t%18446744073709551616=_;omega
 have e2:X7 .u64 (.ofNat (2^s-1))=2^s-1:=by show(2^s-1)%18446744073709551616=_;omega
 rw[e1,e2]
 show Int.ofNat (t&&&(2^s-1))=_
 rw[Nat.and_two_pow_sub_one_eq_mod]
theorem shr_loop {E:Oracle}{K:Nat}{la:PL}{a:List Nat}(sa:SlW la a)(da:Dig a)(hl:a.length<1000000000000){s:Nat}(hs:s<32)(t:Nat):∀(i:Nat),i<=a.length->∀(k:Nat),i<k->
  ∃T',Xa E K 0 [0,1,5,6,7] x208_1 k ⟨[(0,.one (.p la)),(1,.one (.p (.int .i64 (.ofNat s)))),(5,.one (.own 0 0 0 a.length)),(6,.one (.p (.int .u64 (.ofNat (val (a.drop i)%2^s))))),(7,.one (.p (.int .i64 (pI i))))],[⟨false,0,1,wsD (List.replicate i 0++dg (a.length-i) (val (a.drop i) / 2^s)),false,t⟩]⟩=
   some (.exit 0,⟨T',[⟨false,0,1,wsD (dg a.length (val a / 2^s)),false,t⟩]⟩)/\Xf T' 5=some (.one (.own 0 0 0 a.length))
 |_,_,0,h=>by omega
 |0,_,k+1,_=>by
  apply ex1
  ·rw[Xa]
   simp only[EVS,EVN,reduceIte,Nat.reduceEqDiff,x208_1,pI_zero,Nat.sub_zero]
   rfl
  ·simp only[EVS,reduceIte,Nat.reduceEqDiff]
 |i+1,hi,k+1,hk=>by
  obtain⟨T',g1,g2⟩:=shr_loop (E:=E) (K:=K) sa da hl hs t i (by omega) k (by omega)
  refine⟨T',?_,g2⟩
  obtain⟨w,hw⟩:∃w,a[i]? =some w:=⟨_,Zf (by omega)⟩
  have hw2:=da.get hw
  have hx:i<a.length:=by omega
  have hd0:0<2^s:=Nat.pow_pos (by decide)
  have hd:=pow_lt hs
  have hr:=ZN (val (a.drop (i+1))) hd0
  obtain⟨d1,d2⟩:=div_step (a:=w) (X:=val (a.drop (i+1))) hd0
  have hq:=digit_lt hr hw2
  obtain⟨m,hm⟩:∃m,a.length-i=m+1:=⟨a.length-i-1,by omega⟩
  have hm2:a.length-(i+1)=m:=by omega
  rw[val_drop hw,d1,d2,hm,dg]at g1
  rw[hm2]
  generalize val (a.drop (i+1))=X at *
  obtain⟨e1,e2⟩:=digit_mod (Y:=X / 2^s) hq
  rw[e1,e2]at g1
  generalize hR:X%2^s=r at *
  have hr2:r<4294967296:=by omega
  have f1:w%18446744073709551616=w:=Zd (by omega)
  have f4:(r*4294967296+w) / 2^s%4294967296=(r*4294967296+w) / 2^s:=Zd hq
  have f5:Xd .i64 (.ofNat i-.ofNat 1)=pI i:=WV (by omega)
  have f6:=XB (get_rep 0 i (dg m (X / 2^s)))
  have f7:=andN (t:=r*4294967296+w) (s:=s) (by omega) hs
  have f8:=shlN (w:=1) (s:=s) (by decide) hs
  rw[Xa]
  simp only[EVS,EVN,reduceIte,Nat.reduceEqDiff,Nat.reduceLeDiff,Zr,x208_1,pI_succ,sa.idx hw,shl64 hr2,f1,or64 hr2 hw2,f4,f5,f6,f7,f8,maskN hs,shrN hs,hx,X5,set_rep]
  exact g1
theorem shr_ret {B:Base}(hB:Std B){la:PL}{a:List Nat}(sa:SlW la a)(da:Dig a)(hl:a.length<1000000000000){s:Nat}(hs:s<32):
  Ret B 208 [.one la,.one (.int .i64 (.ofNat s))] (.one (.lst (wsP (Xc (val a / 2^s))))):=by
 have h1:=U2 hB (ws:=dg a.length (val a / 2^s)) (by rw[XH];omega)
 rw[VG (dg_dig _ _) (dg_top da)]at h1
 refine Ret.of (hB.tab _ _ rfl) (((Evt.ge (a.length+1)).and (h1.evt.and hB.evt)).mono fun E K ⟨hK,e1,hm⟩=> ?_)
 obtain⟨T',g1,g2⟩:=shr_loop (E:=E) (K:=K) sa da hl hs 161 a.length (Zg _) K (by omega)
 rw[List.drop_length,YN]at g1
 have z1:val []%2^s=0:=Nat.zero_mod _
 have z2:∀v,List.replicate a.length 0++dg 0 v=List.replicate a.length 0:=fun v=>ZO _
 rw[z1,z2]at g1
 have f2:4*a.length<=lim:=by unfold lim;omega
 have f3:a.length<=9223372036854775807:=by omega
 have f4:Xd .i64 (.ofNat a.length-.ofNat 1)=pI a.length:=WV (by omega)
 simp only[EVS,EVN,reduceIte,Nat.reduceEqDiff,Nat.reduceLeDiff,Nat.reduceAdd,x208,sa.len,f2,f3,f4,Zg,VU,g1,g2,VY _ (YG (XH a.length (val a / 2^s))),Ws,XH,Vb,Vl,hm,MDS,e1]
end Go.Proofs.YtefpgecinlekpaaGreat
namespace Go.Num
theorem dg_snoc (i v:Nat):dg (i+1) v=dg i v++[v / 4294967296^i%4294967296]:=by rw[Ug];rfl
theorem dg_same {n u v:Nat}(h:u%4294967296^n=v%4294967296^n):dg n u=dg n v:=by rw[<-dg_mod n u,h,dg_mod]
theorem shl_step {X w p c:Nat}(hp:0<p):(X+w*p)*c / p=w*c+X*c / p/\(X+w*p)*c%p=X*c%p:=by
 have e:(X+w*p)*c=X*c+p*(w*c):=by rw[ZJ,ZE w p,Yj]
 rw[e]
 exact⟨by rw[Nat.add_mul_div_left _ _ hp,YI],by rw[Nat.add_mul_mod_self_left]⟩
theorem rep_set {α:Type}(l:List α)(z x:α)(k:Nat):(l++List.replicate (k+1) z).set l.length x=l++[x]++List.replicate k z:=by
 rw[List.set_append_right _ _ (Zg _),YN,List.replicate_succ,List.set_cons_zero];simp
theorem rep_get {α:Type}(l:List α)(z:α)(k:Nat):(l++List.replicate (k+1) z)[l.length]? =some z:=by
 rw[ZB (Zg _),YN,List.replicate_succ];rfl
end Go.Num
namespace Go.Proofs.YtefpgecinlekpaaGreat
open Go.Ev Go.Num
theorem orN {c w s:Nat}(hw:w<4294967296)(hc:c<2^s)(hs:s<32):VA .u64 (Nat.lor (X7 .u64 (.ofNat (w*2^s))) (X7 .u64 (.ofNat c)))=.ofNat (w*2^s+c):=by
 have h2:=pow_lt hs
 have h3:=Nat.mul_lt_mul'' hw h2
 have e1:X7 .u64 (.ofNat (w*2^s))=2^s*w:=by show w*2^s%18446744073709551616=_;rw[Zd (by omega),ZE]
 have e2:X7 .u64 (.ofNat c)=c:=by show c%18446744073709551616=_;omega
 have e3:Nat.lor (2^s*w) c=2^s*w+c:=(Nat.two_pow_add_eq_or_of_lt hc w).symm
 rw[e1,e2,e3,ZE]
 rfl
def ShlT (T:List (Nat×DV))(la:PL)(s n N i c:Nat):Prop:=
 Xf T 0=some (.one (.p la))/\Xf T 1=some (.one (.p (.int .i64 (.ofNat s))))/\Xf T 5=some (.one (.own N 0 0 (n+1)))/\Xf T 6=some (.one (.p (.int .u64 (.ofNat c))))/\Xf T 14=some (.one (.p (.int .i64 (.ofNat n))))/\Xf T 15=some (.one (.p (.int .i64 (.ofNat i))))
theorem shl_loop {E:Oracle}{K:Nat}{la:PL}{a:List Nat}(sa:SlW la a)(da:Dig a)(hl:a.length<1000000000000){s:Nat}(hs:s<32)(t:Nat)(H:List Blk):∀(d i:Nat),i+d=a.length->∀(k:Nat),d<k->∀T,ShlT T la s a.length H.length i (val (a.take i)*2^s / 4294967296^i)->
  ∃T',Xa E K 0 [0,1,5,6,14,15] x206_1 k ⟨T,H++[⟨false,0,1,wsD (dg i (val (a.take i)*2^s)++List.replicate (d+1) 0),false,t⟩]⟩=
   some (.exit 0,⟨T',H++[⟨false,0,1,wsD (dg a.length (val a*2^s)++[0]),false,t⟩]⟩)/\Xf T' 0=some (.one (.p la))/\Xf T' 5=some (.one (.own H.length 0 0 (a.length+1)))/\Xf T' 6=some (.one (.p (.int .u64 (.ofNat (val a*2^s / 4294967296^a.length)))))
 |_,_,_,0,h=>by omega
 |0,i,hi,k+1,_=>by
  obtain rfl:i=a.length:=by omega
  intro T ⟨t0,t1,t5,t6,t14,t15⟩
  apply ex1
  ·rw[Xa]
   simp only[EVS,EVN,reduceIte,x206_1,ZA,Yc,t14,t15]
   rfl
  ·simp only[EVS,reduceIte,Nat.reduceEqDiff,t0,t5,t6,and_self,Yc]
 |d+1,i,hi,k+1,hk=>by
  intro T ⟨t0,t1,t5,t6,t14,t15⟩
  have ih:=shl_loop (E:=E) (K:=K) sa da hl hs t H d (i+1) (by omega) k (by omega)
  obtain⟨w,hw⟩:∃w,a[i]? =some w:=⟨_,Zf (by omega)⟩
  have hw2:=da.get hw
  have hx:i<a.length:=by omega
  have hx2:i<a.length+1:=by omega
  have hp:0<4294967296^i:=Nat.pow_pos (by decide)
  obtain⟨e1,e2⟩:=shl_step (X:=val (a.take i)) (w:=w) (c:=2^s) hp
  have hX:val (a.take i)<4294967296^i:=by
   have:=Wf (ws:=a.take i) (fun x hx=>da x (YE hx))
   rwa[ZK,Yg (by omega)]at this
  have hc:val (a.take i)*2^s / 4294967296^i<2^s:=Yb (Ye hX (Nat.pow_pos (by decide)))
  have hd:=pow_lt hs
  rw[WC hw,dg_snoc,dg_same e2,ZD,<-YO,e1]at ih
  generalize val (a.take i)*2^s / 4294967296^i=c at *
  have f0:=XH i (val (a.take i)*2^s)
  generalize dg i (val (a.take i)*2^s)=D at *
  have f1:w%18446744073709551616=w:=Zd (by omega)
  have f3:Xd .i64 (.ofNat (i+1))=.ofNat (i+1):=wrap_i64 (by omega)
  have f5:(D++List.replicate (d+1+1) 0)[i]? =some 0:=by rw[<-f0];exact rep_get D 0 (d+1)
  have f6:=XB f5
  have f7:∀x,(D++List.replicate (d+1+1) 0).set i x=D++[x]++List.replicate (d+1) 0:=fun x=>by rw[<-f0];exact rep_set D 0 x (d+1)
  rw[Xa]
  simp only[EVS,EVG,EVN,reduceIte,Nat.reduceEqDiff,Nat.reduceLeDiff,Zr,x206_1,t0,t1,t5,t6,t14,t15,hx,hx2,sa.idx hw,f1,shlN hw2 hs,orN hw2 hc hs,f3,f6,f7,X5]
  exact ih _ ⟨rfl,rfl,rfl,rfl,rfl,rfl⟩
theorem shl_ret {B:Base}(hB:Std B){la:PL}{a:List Nat}(sa:SlW la a)(da:Dig a)(hl:a.length<1000000000000){s:Nat}(hs:s<32)(H:List Blk):
  Va B 206 [.one (.p la),.one (.p (.int .i64 (.ofNat s)))] H (.one (.own H.length 0 0 (a.length+1))) (H++[⟨false,0,1,wsD (dg (a.length+1) (val a*2^s)),false,161⟩]):=by
 refine Va.of (hB.tab _ _ rfl) (((Evt.ge (a.length+1)).and hB.evt).mono fun E K ⟨hK,hm⟩=> ?_)
 have z1:val (a.take 0)*2^s / 4294967296^0=0:=by simp[val]
 obtain⟨T',g1,g2,g3,g4⟩:=shl_loop (E:=E) (K:=K) sa da hl hs 161 H a.length 0 (by omega) K (by omega) [(0,.one (.p la)),(1,.one (.p (.int .i64 (.ofNat s)))),(5,.one (.own H.length 0 0 (a.length+1))),(6,.one (.p (.int .u64 (.ofNat 0)))),(14,.one (.p (.int .i64 (.ofNat a.length)))),(15,.one (.p (.int .i64 (.ofNat 0))))] ⟨rfl,rfl,rfl,by rw[z1];rfl,rfl,rfl⟩
 have z2:∀v,dg 0 v++List.replicate (a.length+1) 0=List.replicate (a.length+1) 0:=fun v=>ZL _
 rw[z2]at g1
 have hd:=pow_lt hs
 have hv:=Wf da
 have hc:val a*2^s / 4294967296^a.length<2^s:=Yb (Ye hv (Nat.pow_pos (by decide)))
 rw[dg_snoc]
 generalize val a*2^s / 4294967296^a.length=c at *
 have f0:=XH a.length (val a*2^s)
 generalize dg a.length (val a*2^s)=D at *
 have f5:(D++[0])[a.length]? =some 0:=by rw[<-f0];exact rep_get D 0 0
 have f6:=XB f5
 have f7:∀x,(D++[0]).set a.length x=D++[x]:=fun x=>by rw[<-f0];simp
 have f2:4*(a.length+1)<=lim:=by unfold lim;omega
 have f3:a.length+1<=9223372036854775807:=by omega
 have f4:Xd .i64 (.ofNat (a.length+1))=.ofNat (a.length+1):=wrap_i64 (by omega)
 have f8:a.length<a.length+1:=by omega
 simp only[EVS,EVH,EVG,EVN,reduceIte,Nat.reduceEqDiff,Nat.reduceLeDiff,Nat.reduceAdd,Zr,x206,sa.len,f2,f3,f4,f6,f7,f8,Zg,VU,X5,g1,g2,g3,g4]
end Go.Proofs.YtefpgecinlekpaaGreat
namespace Go.Num
theorem guess_mul (q r v1 v2 u2:Nat):q*(v1*4294967296+v2)=q*v1*4294967296+q*v2/\(q*v1+r)*4294967296+u2=q*v1*4294967296+r*4294967296+u2:=⟨by rw[Nat.mul_add,Yj],by rw[ZJ]⟩
theorem guess_exit {q r v1 v2 top u2:Nat}(h:q*v1+r=top)(hq:q*v2<=r*4294967296+u2):q*(v1*4294967296+v2)<=top*4294967296+u2:=by
 obtain⟨h1,h2⟩:=guess_mul q r v1 v2 u2
 rw[<-h,h1,h2,Nat.add_assoc]
 exact Nat.add_le_add_left hq _
theorem guess_next {q r v1 v2 top u2:Nat}(h:q*v1+r=top)(hq:r*4294967296+u2<q*v2):top*4294967296+u2<q*(v1*4294967296+v2):=by
 obtain⟨h1,h2⟩:=guess_mul q r v1 v2 u2
 rw[<-h,h1,h2,Nat.add_assoc]
 exact Nat.add_lt_add_left hq _
theorem TX {q r v1 v2 top u2:Nat}(h:q*v1+r=top)(hr:4294967296<=r)(hv:v2<4294967296)(ht:top<v1*4294967296+4294967296):q<4294967296/\q*(v1*4294967296+v2)<=top*4294967296+u2:=by
 have hq:q<4294967296:=by
  rcases Yn q 4294967296 with h1|h1
  ·exact h1
  ·have:=Zn v1 h1
   rw[ZE]at this
   omega
 refine⟨hq,guess_exit h ?_⟩
 have:=Yz (Nat.le_sub_one_of_lt hq) (Nat.le_sub_one_of_lt hv)
 omega
def Guess (v1 v2 top u2 q:Nat):Prop:=q<4294967296/\q*(v1*4294967296+v2)<=top*4294967296+u2/\(4294967295<=q\/top*4294967296+u2<(q+1)*(v1*4294967296+v2))
end Go.Num
namespace Go.Proofs.YtefpgecinlekpaaGreat
open Go.Ev Go.Num
section
variable {E:Oracle}{K:Nat}{H:List Blk}{iu iv j m tu tv k:Nat}{U V:List Nat}{v1 v2 u2 p q r:Nat}
theorem gl_nextA (hu:H[iu]? =some ⟨false,0,1,wsD U,false,tu⟩)(hv:H[iv]? =some ⟨false,0,1,wsD V,false,tv⟩)(hm:m<1000000000000)(g1:V[m+1]? =some v1)(g2:V[m]? =some v2)(g3:U[j+m]? =some u2)(b1:v1<4294967296)(b2:v2<4294967296)(b3:u2<4294967296)(hr:r<4294967296)(hq:p<=4294967298)(hc:4294967296<=p+1)(hb:¬4294967296<=r+v1):Xa E K 0 [0,1,5,7,8] x207_1 (k+1) ⟨[(0,.one (.own iu 0 j (m+3))),(1,.one (.own iv 0 0 (m+2))),(5,.one (.p (.int .i64 (.ofNat (m+2))))),(7,.one (.p (.int .u64 (.ofNat (p+1))))),(8,.one (.p (.int .u64 (.ofNat r))))],H⟩=Xa E K 0 [0,1,5,7,8] x207_1 k ⟨[(0,.one (.own iu 0 j (m+3))),(1,.one (.own iv 0 0 (m+2))),(5,.one (.p (.int .i64 (.ofNat (m+2))))),(7,.one (.p (.int .u64 (.ofNat p)))),(8,.one (.p (.int .u64 (.ofNat (r+v1)))))],H⟩:=by
 have s2:Xd .i64 (.ofNat (m+2)-.ofNat 2)=.ofNat m:=by rw[XI (by omega) (by omega)];rfl
 have s1:Xd .i64 (.ofNat (m+2)-.ofNat 1)=.ofNat (m+1):=by rw[XI (by omega) (by omega)];rfl
 have w1:=XB g1
 have w2:=XB g2
 have w3:=XB g3
 have m1:m<m+2:=by omega
 have m2:m+1<m+2:=by omega
 have m3:m<m+3:=by omega
 have f1:v1%18446744073709551616=v1:=Zd (by omega)
 have f2:v2%18446744073709551616=v2:=Zd (by omega)
 have f3:u2%18446744073709551616=u2:=Zd (by omega)
 have f5:(r+v1)%18446744073709551616=r+v1:=Zd (by omega)
 have f4:Xd .u64 (.ofNat (p+1)-.ofNat 1)=.ofNat p:=by rw[Um (by omega),wrap_u64,Z6,Zd (by omega)]
 obtain⟨cE,lK,oD,oS,oR,dS,dD,h1,h2,h3,h4,h5,h6,h7,hL,R⟩:=EVR
 rw[<-h2,hL]
 simp only[EVQ,R,EVN,reduceIte,Nat.reduceEqDiff,Nat.reduceAdd,Zr,x207_1,hv,s1,w1,m2,f1,f4,f5,hc,hb]
theorem gl_breakA (hu:H[iu]? =some ⟨false,0,1,wsD U,false,tu⟩)(hv:H[iv]? =some ⟨false,0,1,wsD V,false,tv⟩)(hm:m<1000000000000)(g1:V[m+1]? =some v1)(g2:V[m]? =some v2)(g3:U[j+m]? =some u2)(b1:v1<4294967296)(b2:v2<4294967296)(b3:u2<4294967296)(hr:r<4294967296)(hq:p<=4294967298)(hc:4294967296<=p+1)(hb:4294967296<=r+v1):∃T',Xa E K 0 [0,1,5,7,8] x207_1 (k+1) ⟨[(0,.one (.own iu 0 j (m+3))),(1,.one (.own iv 0 0 (m+2))),(5,.one (.p (.int .i64 (.ofNat (m+2))))),(7,.one (.p (.int .u64 (.ofNat (p+1))))),(8,.one (.p (.int .u64 (.ofNat r))))],H⟩=some (.exit 0,⟨T',H⟩)/\Xf T' 0=some (.one (.own iu 0 j (m+3)))/\Xf T' 1=some (.one (.own iv 0 0 (m+2)))/\Xf T' 5=some (.one (.p (.int .i64 (.ofNat (m+2)))))/\Xf T' 7=some (.one (.p (.int .u64 (.ofNat p)))):=by
 have s2:Xd .i64 (.ofNat (m+2)-.ofNat 2)=.ofNat m:=by rw[XI (by omega) (by omega)];rfl
 have s1:Xd .i64 (.ofNat (m+2)-.ofNat 1)=.ofNat (m+1):=by rw[XI (by omega) (by omega)];rfl
 have w1:=XB g1
 have w2:=XB g2
 have w3:=XB g3
 have m1:m<m+2:=by omega
 have m2:m+1<m+2:=by omega
 have m3:m<m+3:=by omega
 have f1:v1%18446744073709551616=v1:=Zd (by omega)
 have f2:v2%18446744073709551616=v2:=Zd (by omega)
 have f3:u2%18446744073709551616=u2:=Zd (by omega)
 have f5:(r+v1)%18446744073709551616=r+v1:=Zd (by omega)
 have f4:Xd .u64 (.ofNat (p+1)-.ofNat 1)=.ofNat p:=by rw[Um (by omega),wrap_u64,Z6,Zd (by omega)]
 apply ex1
 ·obtain⟨cE,lK,oD,oS,oR,dS,dD,h1,h2,h3,h4,h5,h6,h7,hL,R⟩:=EVR
  rw[<-h2,hL]
  simp only[EVQ,R,EVN,reduceIte,Nat.reduceEqDiff,Nat.reduceAdd,Zr,x207_1,hv,s1,w1,m2,f1,f4,f5,hc,hb]
  rfl
 ·simp only[EVS,reduceIte,Nat.reduceEqDiff,and_self]
theorem gl_nextB (hu:H[iu]? =some ⟨false,0,1,wsD U,false,tu⟩)(hv:H[iv]? =some ⟨false,0,1,wsD V,false,tv⟩)(hm:m<1000000000000)(g1:V[m+1]? =some v1)(g2:V[m]? =some v2)(g3:U[j+m]? =some u2)(b1:v1<4294967296)(b2:v2<4294967296)(b3:u2<4294967296)(hr:r<4294967296)(hc:¬4294967296<=p+1)(hg:r*4294967296+u2<(p+1)*v2)(hb:¬4294967296<=r+v1):Xa E K 0 [0,1,5,7,8] x207_1 (k+1) ⟨[(0,.one (.own iu 0 j (m+3))),(1,.one (.own iv 0 0 (m+2))),(5,.one (.p (.int .i64 (.ofNat (m+2))))),(7,.one (.p (.int .u64 (.ofNat (p+1))))),(8,.one (.p (.int .u64 (.ofNat r))))],H⟩=Xa E K 0 [0,1,5,7,8] x207_1 k ⟨[(0,.one (.own iu 0 j (m+3))),(1,.one (.own iv 0 0 (m+2))),(5,.one (.p (.int .i64 (.ofNat (m+2))))),(7,.one (.p (.int .u64 (.ofNat p)))),(8,.one (.p (.int .u64 (.ofNat (r+v1)))))],H⟩:=by
 have s2:Xd .i64 (.ofNat (m+2)-.ofNat 2)=.ofNat m:=by rw[XI (by omega) (by omega)];rfl
 have s1:Xd .i64 (.ofNat (m+2)-.ofNat 1)=.ofNat (m+1):=by rw[XI (by omega) (by omega)];rfl
 have w1:=XB g1
 have w2:=XB g2
 have w3:=XB g3
 have m1:m<m+2:=by omega
 have m2:m+1<m+2:=by omega
 have m3:m<m+3:=by omega
 have f1:v1%18446744073709551616=v1:=Zd (by omega)
 have f2:v2%18446744073709551616=v2:=Zd (by omega)
 have f3:u2%18446744073709551616=u2:=Zd (by omega)
 have f5:(r+v1)%18446744073709551616=r+v1:=Zd (by omega)
 have f4:Xd .u64 (.ofNat (p+1)-.ofNat 1)=.ofNat p:=by rw[Um (by omega),wrap_u64,Z6,Zd (by omega)]
 have f6:(p+1)*v2%18446744073709551616=(p+1)*v2:=by
  have:=V1 (x:=p+1) (by omega) b2 (z:=0) (u:=0) (by omega) (by omega)
  exact Zd (by omega)
 obtain⟨cE,lK,oD,oS,oR,dS,dD,h1,h2,h3,h4,h5,h6,h7,hL,R⟩:=EVR
 rw[<-h2,hL]
 simp only[EVQ,R,EVN,reduceIte,Nat.reduceEqDiff,Nat.reduceAdd,Zr,x207_1,hu,hv,s1,s2,w1,w2,w3,m1,m2,m3,f1,f2,f3,f4,f5,f6,hc,shl64 hr,or64 hr b3,hg,hb]
theorem gl_breakB (hu:H[iu]? =some ⟨false,0,1,wsD U,false,tu⟩)(hv:H[iv]? =some ⟨false,0,1,wsD V,false,tv⟩)(hm:m<1000000000000)(g1:V[m+1]? =some v1)(g2:V[m]? =some v2)(g3:U[j+m]? =some u2)(b1:v1<4294967296)(b2:v2<4294967296)(b3:u2<4294967296)(hr:r<4294967296)(hc:¬4294967296<=p+1)(hg:r*4294967296+u2<(p+1)*v2)(hb:4294967296<=r+v1):∃T',Xa E K 0 [0,1,5,7,8] x207_1 (k+1) ⟨[(0,.one (.own iu 0 j (m+3))),(1,.one (.own iv 0 0 (m+2))),(5,.one (.p (.int .i64 (.ofNat (m+2))))),(7,.one (.p (.int .u64 (.ofNat (p+1))))),(8,.one (.p (.int .u64 (.ofNat r))))],H⟩=some (.exit 0,⟨T',H⟩)/\Xf T' 0=some (.one (.own iu 0 j (m+3)))/\Xf T' 1=some (.one (.own iv 0 0 (m+2)))/\Xf T' 5=some (.one (.p (.int .i64 (.ofNat (m+2)))))/\Xf T' 7=some (.one (.p (.int .u64 (.ofNat p)))):=by
 have s2:Xd .i64 (.ofNat (m+2)-.ofNat 2)=.ofNat m:=by rw[XI (by omega) (by omega)];rfl
 have s1:Xd .i64 (.ofNat (m+2)-.ofNat 1)=.ofNat (m+1):=by rw[XI (by omega) (by omega)];rfl
 have w1:=XB g1
 have w2:=XB g2
 have w3:=XB g3
 have m1:m<m+2:=by omega
 have m2:m+1<m+2:=by omega
 have m3:m<m+3:=by omega
 have f1:v1%18446744073709551616=v1:=Zd (by omega)
 have f2:v2%18446744073709551616=v2:=Zd (by omega)
 have f3:u2%18446744073709551616=u2:=Zd (by omega)
 have f5:(r+v1)%18446744073709551616=r+v1:=Zd (by omega)
 have f4:Xd .u64 (.ofNat (p+1)-.ofNat 1)=.ofNat p:=by rw[Um (by omega),wrap_u64,Z6,Zd (by omega)]
 have f6:(p+1)*v2%18446744073709551616=(p+1)*v2:=by
  have:=V1 (x:=p+1) (by omega) b2 (z:=0) (u:=0) (by omega) (by omega)
  exact Zd (by omega)
 apply ex1
 ·obtain⟨cE,lK,oD,oS,oR,dS,dD,h1,h2,h3,h4,h5,h6,h7,hL,R⟩:=EVR
  rw[<-h2,hL]
  simp only[EVQ,R,EVN,reduceIte,Nat.reduceEqDiff,Nat.reduceAdd,Zr,x207_1,hu,hv,s1,s2,w1,w2,w3,m1,m2,m3,f1,f2,f3,f4,f5,f6,hc,shl64 hr,or64 hr b3,hg,hb]
  rfl
 ·simp only[EVS,reduceIte,Nat.reduceEqDiff,and_self]
theorem gl_exit (hu:H[iu]? =some ⟨false,0,1,wsD U,false,tu⟩)(hv:H[iv]? =some ⟨false,0,1,wsD V,false,tv⟩)(hm:m<1000000000000)(g1:V[m+1]? =some v1)(g2:V[m]? =some v2)(g3:U[j+m]? =some u2)(b1:v1<4294967296)(b2:v2<4294967296)(b3:u2<4294967296)(hr:r<4294967296)(hc:¬4294967296<=q)(hg:¬r*4294967296+u2<q*v2):∃T',Xa E K 0 [0,1,5,7,8] x207_1 (k+1) ⟨[(0,.one (.own iu 0 j (m+3))),(1,.one (.own iv 0 0 (m+2))),(5,.one (.p (.int .i64 (.ofNat (m+2))))),(7,.one (.p (.int .u64 (.ofNat q)))),(8,.one (.p (.int .u64 (.ofNat r))))],H⟩=some (.exit 0,⟨T',H⟩)/\Xf T' 0=some (.one (.own iu 0 j (m+3)))/\Xf T' 1=some (.one (.own iv 0 0 (m+2)))/\Xf T' 5=some (.one (.p (.int .i64 (.ofNat (m+2)))))/\Xf T' 7=some (.one (.p (.int .u64 (.ofNat q)))):=by
 have s2:Xd .i64 (.ofNat (m+2)-.ofNat 2)=.ofNat m:=by rw[XI (by omega) (by omega)];rfl
 have s1:Xd .i64 (.ofNat (m+2)-.ofNat 1)=.ofNat (m+1):=by rw[XI (by omega) (by omega)];rfl
 have w1:=XB g1
 have w2:=XB g2
 have w3:=XB g3
 have m1:m<m+2:=by omega
 have m2:m+1<m+2:=by omega
 have m3:m<m+3:=by omega
 have f1:v1%18446744073709551616=v1:=Zd (by omega)
 have f2:v2%18446744073709551616=v2:=Zd (by omega)
 have f3:u2%18446744073709551616=u2:=Zd (by omega)
 have f6:q*v2%18446744073709551616=q*v2:=by
  have:=V1 (x:=q) (by omega) b2 (z:=0) (u:=0) (by omega) (by omega)
  exact Zd (by omega)
 apply ex1
 ·obtain⟨cE,lK,oD,oS,oR,dS,dD,h1,h2,h3,h4,h5,h6,h7,hL,R⟩:=EVR
  rw[<-h2,hL]
  simp only[EVQ,R,EVN,reduceIte,Nat.reduceEqDiff,Nat.reduceAdd,Zr,x207_1,hu,hv,s2,w2,w3,m1,m3,f2,f3,f6,hc,shl64 hr,or64 hr b3,hg]
  rfl
 ·simp only[EVS,reduceIte,Nat.reduceEqDiff,and_self]
theorem guess_loop (hu:H[iu]? =some ⟨false,0,1,wsD U,false,tu⟩)(hv:H[iv]? =some ⟨false,0,1,wsD V,false,tv⟩)(hm:m<1000000000000)(g1:V[m+1]? =some v1)(g2:V[m]? =some v2)(g3:U[j+m]? =some u2)(b1:v1<4294967296)(b2:v2<4294967296)(b3:u2<4294967296){top:Nat}(ht:top<v1*4294967296+4294967296):∀(d q r:Nat),q*v1+r=top->r<4294967296->q<=4294967298->4294967296<=r+d*v1->(4294967296<=q+1\/top*4294967296+u2<(q+1)*(v1*4294967296+v2))->∀k,d<k->
  ∃T' q',Xa E K 0 [0,1,5,7,8] x207_1 k ⟨[(0,.one (.own iu 0 j (m+3))),(1,.one (.own iv 0 0 (m+2))),(5,.one (.p (.int .i64 (.ofNat (m+2))))),(7,.one (.p (.int .u64 (.ofNat q)))),(8,.one (.p (.int .u64 (.ofNat r))))],H⟩=some (.exit 0,⟨T',H⟩)/\(Xf T' 0=some (.one (.own iu 0 j (m+3)))/\Xf T' 1=some (.one (.own iv 0 0 (m+2)))/\Xf T' 5=some (.one (.p (.int .i64 (.ofNat (m+2)))))/\Xf T' 7=some (.one (.p (.int .u64 (.ofNat q')))))/\Guess v1 v2 top u2 q':=by
 intro d
 induction d with
 |zero=>intro q r _ hr _ hd;omega
 |succ d ih=>
  intro q r e hr hq hd hn k hk
  obtain⟨k,rfl⟩:∃k',k=k'+1:=⟨k-1,by omega⟩
  by_cases hc:4294967296<=q
  ·obtain⟨p,rfl⟩:∃p,q=p+1:=⟨q-1,by omega⟩
   have e':p*v1+(r+v1)=top:=by rw[Nat.succ_mul]at e;omega
   by_cases hb:4294967296<=r+v1
   ·obtain⟨k1,k2⟩:=TX (u2:=u2) e' hb b2 ht
    obtain⟨T',h1,h2⟩:=gl_breakA (E:=E) (K:=K) (k:=k) hu hv hm g1 g2 g3 b1 b2 b3 hr (by omega) hc hb
    exact⟨T',p,h1,h2,k1,k2,.inl (by omega)⟩
   ·obtain⟨T',q',h1,h2⟩:=ih p (r+v1) e' (by omega) (by omega) (by rw[Nat.succ_mul]at hd;omega) (.inl hc) k (by omega)
    exact⟨T',q',by rw[gl_nextA hu hv hm g1 g2 g3 b1 b2 b3 hr (by omega) hc hb];exact h1,h2⟩
  ·by_cases hg:r*4294967296+u2<q*v2
   ·obtain⟨p,rfl⟩:∃p,q=p+1:=by
     rcases Z0 q with h|h
     ·subst h;omega
     ·exact⟨q-1,by omega⟩
    have e':p*v1+(r+v1)=top:=by rw[Nat.succ_mul]at e;omega
    have hnx:=guess_next e hg
    by_cases hb:4294967296<=r+v1
    ·obtain⟨k1,k2⟩:=TX (u2:=u2) e' hb b2 ht
     obtain⟨T',h1,h2⟩:=gl_breakB (E:=E) (K:=K) (k:=k) hu hv hm g1 g2 g3 b1 b2 b3 hr hc hg hb
     exact⟨T',p,h1,h2,k1,k2,.inr hnx⟩
    ·obtain⟨T',q',h1,h2⟩:=ih p (r+v1) e' (by omega) (by omega) (by rw[Nat.succ_mul]at hd;omega) (.inr hnx) k (by omega)
     exact⟨T',q',by rw[gl_nextB hu hv hm g1 g2 g3 b1 b2 b3 hr hc hg hb];exact h1,h2⟩
   ·obtain⟨T',h1,h2⟩:=gl_exit (E:=E) (K:=K) (k:=k) hu hv hm g1 g2 g3 b1 b2 b3 hr hc hg
    refine⟨T',q,h1,h2,by omega,guess_exit e (by omega),?_⟩
    rcases hn with hn|hn
    ·exact .inl (by omega)
    ·exact .inr hn
end
end Go.Proofs.YtefpgecinlekpaaGreat
namespace Go.Num
theorem mid_get {α:Type}(P R:List α)(x:α){k:Nat}(h:P.length=k):(P++x::R)[k]? =some x:=by subst h;simp
theorem mid_set {α:Type}(P R:List α)(x y:α){k:Nat}(h:P.length=k):(P++x::R).set k y=P++[y]++R:=by subst h;simp
theorem TA {α:Type}{H:List α}{i:Nat}{b:α}(h:H[i]? =some b):H.set i b=H:=by
 obtain⟨h1,rfl⟩:=Zb.1 h
 exact List.set_getElem_self h1
theorem SX {α:Type}{H:List α}{i:Nat}{b c:α}(h:H[i]? =some b):(H.set i c)[i]? =some c:=by
 obtain⟨h1,-⟩:=Zb.1 h
 simp[h1]
theorem set_other {α:Type}{H:List α}{i j:Nat}{b c:α}(hne:i≠j)(h:H[j]? =some b):(H.set i c)[j]? =some b:=by
 rw[Zz hne];exact h
theorem Dig.snoc {ws:List Nat}{w:Nat}(h:Dig ws)(hw:w<4294967296):Dig (ws++[w]):=by
 intro x hx
 rcases Z3.1 hx with h1|h1
 ·exact h x h1
 ·rw[Yo.1 h1];exact hw
theorem val_snoc (ws:List Nat)(w:Nat){i:Nat}(h:ws.length=i):val (ws++[w])=val ws+w*4294967296^i:=by
 rw[SP,h];simp only[val,Nat.mul_zero,Yu];rw[ZE]
theorem U8 (x i:Nat):x%4294967296^(i+1)=x%4294967296^i+4294967296^i*(x / 4294967296^i%4294967296):=Nat.mod_pow_succ
theorem dg_cons (k x i:Nat):dg (k+1) (x / 4294967296^i)=x / 4294967296^i%4294967296::dg k (x / 4294967296^(i+1)):=by
 rw[dg,YO,ZD]
theorem blk_get {low hi:List Nat}{U j n i:Nat}(hj:low.length=j)(hin:i<n):(low++(dg n U++hi))[j+i]? =some (U / 4294967296^i%4294967296):=by
 rw[ZB (by omega),show j+i-low.length=i by omega,Zy (by rw[XH];exact hin),get_dg hin]
theorem sub_rel {Y q VM P vi UM ui c b w t c' b':Nat}(h:Y+q*VM=UM+(c+b)*P)(ht:t=q*vi+c)(hc:c'=t / 4294967296)(hw:w+t%4294967296+b=ui+4294967296*b'):
  (Y+w*P)+q*(VM+P*vi)=UM+P*ui+(c'+b')*(P*4294967296):=by
 have e:4294967296*c'+t%4294967296=t:=by rw[hc];exact Ym ..
 have e2:w+q*vi+c+b=ui+(b'+c')*4294967296:=by omega
 clear hw e hc ht
 grind
end Go.Num
namespace Go.Proofs.YtefpgecinlekpaaGreat
open Go.Ev Go.Num
section
variable {E:Oracle}{K:Nat}{iu iv j n tu tv:Nat}{low hi Vw:List Nat}{U V q:Nat}
theorem sub_loop (hne:iu≠iv)(hlow:low.length=j)(hn:n<1000000000000)(hq:q<4294967296)(hV:∀i,i<n->Vw[i]? =some (V / 4294967296^i%4294967296)):∀(d i k:Nat) (H:List Blk) (yl:List Nat) (c b:Nat),i+d=n->d<k->
  H[iu]? =some ⟨false,0,1,wsD (low++yl++(dg (d+1) (U / 4294967296^i)++hi)),false,tu⟩->H[iv]? =some ⟨false,0,1,wsD Vw,false,tv⟩->yl.length=i->Dig yl->c<4294967296->b<=1->val yl+q*(V%4294967296^i)=U%4294967296^i+(c+b)*4294967296^i->
  ∃T' yl' c' b',Xa E K 0 [0,1,5,7,9,10,82,83] x207_2 k ⟨[(0,.one (.own iu 0 j (n+1))),(1,.one (.own iv 0 0 n)),(5,.one (.p (.int .i64 (.ofNat n)))),(7,.one (.p (.int .u64 (.ofNat q)))),(9,.one (.p (.int .u64 (.ofNat c)))),(10,.one (.p (.int .u64 (.ofNat b)))),(82,.one (.p (.int .i64 (.ofNat n)))),(83,.one (.p (.int .i64 (.ofNat i))))],H⟩=
   some (.exit 2,⟨T',H.set iu ⟨false,0,1,wsD (low++yl'++(dg 1 (U / 4294967296^n)++hi)),false,tu⟩⟩)/\
   (Xf T' 0=some (.one (.own iu 0 j (n+1)))/\Xf T' 1=some (.one (.own iv 0 0 n))/\Xf T' 5=some (.one (.p (.int .i64 (.ofNat n))))/\Xf T' 7=some (.one (.p (.int .u64 (.ofNat q))))/\Xf T' 9=some (.one (.p (.int .u64 (.ofNat c'))))/\Xf T' 10=some (.one (.p (.int .u64 (.ofNat b')))))/\
   yl'.length=n/\Dig yl'/\c'<4294967296/\b'<=1/\val yl'+q*(V%4294967296^n)=U%4294967296^n+(c'+b')*4294967296^n
 |_,_,0,_,_,_,_,_,h,_,_,_,_,_,_,_=>by omega
 |0,i,k+1,H,yl,c,b,hi',_,hu,hv,h1,h2,h3,h4,h5=>by
  obtain rfl:i=n:=by omega
  rw[show(dg (0+1) (U / 4294967296^i))=dg 1 (U / 4294967296^i)from rfl]at hu
  have :∃T',Xa E K 0 [0,1,5,7,9,10,82,83] x207_2 (k+1) ⟨[(0,.one (.own iu 0 j (i+1))),(1,.one (.own iv 0 0 i)),(5,.one (.p (.int .i64 (.ofNat i)))),(7,.one (.p (.int .u64 (.ofNat q)))),(9,.one (.p (.int .u64 (.ofNat c)))),(10,.one (.p (.int .u64 (.ofNat b)))),(82,.one (.p (.int .i64 (.ofNat i)))),(83,.one (.p (.int .i64 (.ofNat i))))],H⟩=some (.exit 2,⟨T',H⟩)/\
    (Xf T' 0=some (.one (.own iu 0 j (i+1)))/\Xf T' 1=some (.one (.own iv 0 0 i))/\Xf T' 5=some (.one (.p (.int .i64 (.ofNat i))))/\Xf T' 7=some (.one (.p (.int .u64 (.ofNat q))))/\Xf T' 9=some (.one (.p (.int .u64 (.ofNat c))))/\Xf T' 10=some (.one (.p (.int .u64 (.ofNat b))))):=by
   apply ex1
   ·obtain⟨cE,lK,oD,oS,oR,dS,dD,e1,e2,e3,e4,e5,e6,e7,hL,R⟩:=EVR
    rw[<-e2,hL]
    simp only[EVQ,R,EVN,reduceIte,Nat.reduceEqDiff,x207_2,ZA]
    rfl
   ·simp only[EVS,reduceIte,Nat.reduceEqDiff,and_self]
  obtain⟨T',g1,g2⟩:=this
  exact⟨T',yl,c,b,by rw[TA hu];exact g1,g2,h1,h2,h3,h4,h5⟩
 |d+1,i,k+1,H,yl,c,b,hi',hk,hu,hv,h1,h2,h3,h4,h5=>by
  have hin:i<n:=by omega
  have hv1:=hV i hin
  obtain⟨vi,evi⟩:∃vi,vi=V / 4294967296^i%4294967296:=⟨_,rfl⟩
  obtain⟨ui,eui⟩:∃ui,ui=U / 4294967296^i%4294967296:=⟨_,rfl⟩
  have hvi:vi<4294967296:=by omega
  have hui:ui<4294967296:=by omega
  rw[dg_cons,ZR,<-eui]at hu
  rw[<-evi]at hv1
  have hpl:(low++yl).length=j+i:=by rw[Zm,hlow,h1]
  have ht:=V1 hq hvi (z:=0) (u:=c) (by omega) h3
  obtain⟨t,et⟩:∃t,t=q*vi+c:=⟨_,rfl⟩
  have f1:vi%18446744073709551616=vi:=Zd (by omega)
  have f2:ui%18446744073709551616=ui:=Zd (by omega)
  have f3:q*vi%18446744073709551616=q*vi:=Zd (by omega)
  have f4:t%18446744073709551616=t:=Zd (by omega)
  have f5:t%4294967296%18446744073709551616=t%4294967296:=Zd (by omega)
  have f6:Xd .i64 (.ofNat (i+1))=.ofNat (i+1):=wrap_i64 (by omega)
  obtain⟨d1,k1,p1⟩:∃d1,Xd .u64 (.ofNat ui-.ofNat (t%4294967296))=.ofNat d1/\d1=(ui+(18446744073709551616-t%4294967296))%18446744073709551616:=⟨_,sub_u64 (by omega),rfl⟩
  obtain⟨d2,k2,p2⟩:∃d2,Xd .u64 (.ofNat d1-.ofNat b)=.ofNat d2/\d2=(d1+(18446744073709551616-b))%18446744073709551616:=⟨_,sub_u64 (by omega),rfl⟩
  have rel:d2%4294967296+t%4294967296+b=ui+4294967296*(d2 / 9223372036854775808):=by omega
  have hb':d2 / 9223372036854775808<=1:=by omega
  have hc':t / 4294967296<4294967296:=by omega
  have hnew:=sub_rel h5 et rfl rel
  have hlt1:d2%4294967296<4294967296:=by omega
  obtain⟨w,ew⟩:∃w,w=d2%4294967296:=⟨_,rfl⟩
  rw[<-ew]at hnew hlt1
  obtain⟨T',yl',c',b',g1,g2,g3,g4,g5,g6,g7⟩:=sub_loop hne hlow hn hq hV d (i+1) k (H.set iu ⟨false,0,1,wsD (low++(yl++[w])++(dg (d+1) (U / 4294967296^(i+1))++hi)),false,tu⟩) (yl++[w]) (t / 4294967296) (d2 / 9223372036854775808) (by omega) (by omega)
   (SX hu) (set_other hne hv) (by simp[h1]) (h2.snoc hlt1) hc' hb' (by rw[val_snoc _ _ h1,U8,U8,<-evi,<-eui,ZD];exact hnew)
  rw[List.set_set]at g1
  refine⟨T',yl',c',b',?_,g2,g3,g4,g5,g6,g7⟩
  rw[<-Zq low yl [w],<-mid_set (low++yl) _ ui w hpl]at g1
  have a1:=XB hv1
  have a2:=XB (mid_get (low++yl) (dg (d+1) (U / 4294967296^(i+1))++hi) ui hpl)
  have a3:i<n+1:=by omega
  rw[et]at f4 f5 k1
  have f7:t=q*vi+c:=et
  obtain⟨cE,lK,oD,oS,oR,dS,dD,e1,e2,e3,e4,e5,e6,e7,hL,R⟩:=EVR
  rw[<-e2]at g1⊢
  rw[hL]
  subst ew et
  simp only[EVQ,R,EVN,reduceIte,Nat.reduceEqDiff,Nat.reduceLeDiff,Zr,x207_2,hu,hv,a1,a2,a3,hin,f1,f2,f3,f4,f5,f6,k1,k2,X5]
  exact g1
end
end Go.Proofs.YtefpgecinlekpaaGreat
namespace Go.Num
theorem add_rel {Y VM P vi YM yi c w c':Nat}(h:Y+c*P=YM+VM)(hw:w+4294967296*c'=yi+vi+c):
  (Y+w*P)+c'*(P*4294967296)=(YM+yi*P)+(VM+P*vi):=by grind
theorem take_get {ws:List Nat}{n i:Nat}(h:i<n)(hl:ws.length=n):∃w,ws[i]? =some w/\ws.drop i=w::ws.drop (i+1)/\val (ws.take (i+1))=val (ws.take i)+w*4294967296^i:=by
 obtain⟨w,hw⟩:∃w,ws[i]? =some w:=⟨_,Zf (by omega)⟩
 refine⟨w,hw,?_,WC hw⟩
 obtain⟨h1,rfl⟩:=Zb.1 hw
 exact Z1 h1
end Go.Num
namespace Go.Proofs.YtefpgecinlekpaaGreat
open Go.Ev Go.Num
section
variable {E:Oracle}{K:Nat}{iu iv j n tu tv q:Nat}{low hi Vw ys:List Nat}{V:Nat}
theorem res_loop (hne:iu≠iv)(hlow:low.length=j)(hn:n<1000000000000)(hys:ys.length=n)(dys:Dig ys)(hV:∀i,i<n->Vw[i]? =some (V / 4294967296^i%4294967296)):∀(d i k:Nat) (H:List Blk) (zl:List Nat) (c:Nat),i+d=n->d<k->
  H[iu]? =some ⟨false,0,1,wsD (low++zl++(ys.drop i++hi)),false,tu⟩->H[iv]? =some ⟨false,0,1,wsD Vw,false,tv⟩->zl.length=i->Dig zl->c<=1->val zl+c*4294967296^i=val (ys.take i)+V%4294967296^i->
  ∃T' zl' c',Xa E K 0 [0,1,5,7,9,135,136] x207_3 k ⟨[(0,.one (.own iu 0 j (n+1))),(1,.one (.own iv 0 0 n)),(5,.one (.p (.int .i64 (.ofNat n)))),(7,.one (.p (.int .u64 (.ofNat q)))),(9,.one (.p (.int .u64 (.ofNat c)))),(135,.one (.p (.int .i64 (.ofNat n)))),(136,.one (.p (.int .i64 (.ofNat i))))],H⟩=
   some (.exit 4,⟨T',H.set iu ⟨false,0,1,wsD (low++zl'++hi),false,tu⟩⟩)/\
   (Xf T' 0=some (.one (.own iu 0 j (n+1)))/\Xf T' 5=some (.one (.p (.int .i64 (.ofNat n))))/\Xf T' 7=some (.one (.p (.int .u64 (.ofNat q))))/\Xf T' 9=some (.one (.p (.int .u64 (.ofNat c')))))/\
   zl'.length=n/\Dig zl'/\c'<=1/\val zl'+c'*4294967296^n=val ys+V%4294967296^n
 |_,_,0,_,_,_,_,h,_,_,_,_,_,_=>by omega
 |0,i,k+1,H,zl,c,hi',_,hu,hv,h1,h2,h3,h4=>by
  obtain rfl:i=n:=by omega
  rw[List.drop_of_length_le (by omega),ZL]at hu
  rw[Ze (by omega)]at h4
  have :∃T',Xa E K 0 [0,1,5,7,9,135,136] x207_3 (k+1) ⟨[(0,.one (.own iu 0 j (i+1))),(1,.one (.own iv 0 0 i)),(5,.one (.p (.int .i64 (.ofNat i)))),(7,.one (.p (.int .u64 (.ofNat q)))),(9,.one (.p (.int .u64 (.ofNat c)))),(135,.one (.p (.int .i64 (.ofNat i)))),(136,.one (.p (.int .i64 (.ofNat i))))],H⟩=some (.exit 4,⟨T',H⟩)/\
    (Xf T' 0=some (.one (.own iu 0 j (i+1)))/\Xf T' 5=some (.one (.p (.int .i64 (.ofNat i))))/\Xf T' 7=some (.one (.p (.int .u64 (.ofNat q))))/\Xf T' 9=some (.one (.p (.int .u64 (.ofNat c))))):=by
   apply ex1
   ·obtain⟨cE,lK,oD,oS,oR,dS,dD,e1,e2,e3,e4,e5,e6,e7,hL,R⟩:=EVR
    rw[<-e2,hL]
    simp only[EVQ,R,EVN,reduceIte,Nat.reduceEqDiff,x207_3,ZA]
    rfl
   ·simp only[EVS,reduceIte,Nat.reduceEqDiff,and_self]
  obtain⟨T',g1,g2⟩:=this
  exact⟨T',zl,c,by rw[TA hu];exact g1,g2,h1,h2,h3,h4⟩
 |d+1,i,k+1,H,zl,c,hi',hk,hu,hv,h1,h2,h3,h4=>by
  have hin:i<n:=by omega
  have hv1:=hV i hin
  obtain⟨vi,evi⟩:∃vi,vi=V / 4294967296^i%4294967296:=⟨_,rfl⟩
  have hvi:vi<4294967296:=by omega
  obtain⟨yi,y1,y2,y3⟩:=take_get (ws:=ys) hin hys
  have hyi:=dys.get y1
  rw[y2,ZR]at hu
  rw[<-evi]at hv1
  have hpl:(low++zl).length=j+i:=by rw[Zm,hlow,h1]
  obtain⟨t,et⟩:∃t,t=yi+vi+c:=⟨_,rfl⟩
  have f1:vi%18446744073709551616=vi:=Zd (by omega)
  have f2:yi%18446744073709551616=yi:=Zd (by omega)
  have f3:(yi+vi)%18446744073709551616=yi+vi:=Zd (by omega)
  have f4:(yi+vi+c)%18446744073709551616=yi+vi+c:=Zd (by omega)
  have f6:Xd .i64 (.ofNat (i+1))=.ofNat (i+1):=wrap_i64 (by omega)
  have rel:t%4294967296+4294967296*(t / 4294967296)=yi+vi+c:=by omega
  have hc':t / 4294967296<=1:=by omega
  have hnew:=add_rel h4 rel
  obtain⟨T',zl',c',g1,g2,g3,g4,g5,g6⟩:=res_loop hne hlow hn hys dys hV d (i+1) k (H.set iu ⟨false,0,1,wsD (low++(zl++[t%4294967296])++(ys.drop (i+1)++hi)),false,tu⟩) (zl++[t%4294967296]) (t / 4294967296) (by omega) (by omega)
   (SX hu) (set_other hne hv) (by simp[h1]) (h2.snoc (by omega)) hc' (by rw[val_snoc _ _ h1,y3,U8,<-evi,ZD];exact hnew)
  rw[List.set_set]at g1
  refine⟨T',zl',c',?_,g2,g3,g4,g5,g6⟩
  rw[<-Zq low zl [t%4294967296],<-mid_set (low++zl) _ yi (t%4294967296) hpl]at g1
  have a1:=XB hv1
  have a2:=XB (mid_get (low++zl) (ys.drop (i+1)++hi) yi hpl)
  have a3:i<n+1:=by omega
  obtain⟨cE,lK,oD,oS,oR,dS,dD,e1,e2,e3,e4,e5,e6,e7,hL,R⟩:=EVR
  rw[<-e2]at g1⊢
  rw[hL]
  subst et
  simp only[EVQ,R,EVN,reduceIte,Nat.reduceEqDiff,Nat.reduceLeDiff,Nat.reduceAdd,Zr,x207_3,hu,hv,a1,a2,a3,hin,f1,f2,f3,f4,f6,X5]
  exact g1
end
end Go.Proofs.YtefpgecinlekpaaGreat
