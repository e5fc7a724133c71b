/- The reference's integers: the loop of divided. -/
import Derived.Test.YtefpgecinlekpaaGreatRDiv
import Derived.Test.YtefpgecinlekpaaGreatRat
set_option maxHeartbeats 16000000
set_option maxRecDepth 100000
namespace Go.Num
theorem norm_ref {y n w d:Nat}(hw:w=y / 4294967296^n)(hw0:0<w)(hw1:w<4294967296)(hd:d=4294967296 / (w+1)):Norm (y*d) (n+1)/\0<d/\d<4294967296:=by
 obtain⟨a1,a2⟩:=V9 y _ (UG n)
 rw[<-hw]at a1 a2
 have h1:=Ym 4294967296 (w+1)
 have h2:=ZN 4294967296 (show 0<w+1 by omega)
 rw[<-hd]at h1
 have hd0:0<d:=by rw[hd];exact Nat.div_pos (by omega) (by omega)
 have hd1:d<4294967296:=by rw[hd];exact Nat.div_lt_self (by decide) (by omega)
 obtain⟨r,hr⟩:∃r,r=4294967296%(w+1):=⟨_,rfl⟩
 rw[<-hr]at h1 h2
 have half:4294967296<=2*(w*d):=by
  have e:(w+1)*d=w*d+d:=by rw[ZJ,Z9]
  rw[e]at h1
  rcases Yn 1 d with hd2|hd2
  ·rcases Yn 1 w with hw2|hw2
   ·have :2*(w-1)<=d*(w-1):=Zn _ hd2
    have e2:d*(w-1)+d=w*d:=by
     obtain⟨v,rfl⟩:∃v,w=v+1:=⟨w-1,by omega⟩
     rw[Z6,ZJ,Z9,ZE]
    omega
   ·have :w=1:=by omega
    subst this
    omega
  ·have :d=1:=by omega
   subst this
   omega
 refine⟨⟨?_,?_⟩,hd0,hd1⟩
 ·rw[ZD]
  have h3:=Zn d a1
  have h4:=Zn (4294967296^n) half
  generalize 4294967296^n=P at *
  have e3:2*(w*d)*P=2*(w*P*d):=by rw[Yj,Nat.mul_right_comm]
  rw[e3]at h4
  rw[ZE P]
  omega
 ·rw[ZD]
  have h3:=Ye a2 hd0
  have h4:(w+1)*d<=4294967296:=by omega
  have h5:=Zn (4294967296^n) h4
  rw[Nat.mul_right_comm]at h5
  rw[ZE (4294967296^n)]
  exact ZQ h3 h5
end Go.Num
namespace Go.Proofs.YtefpgecinlekpaaGreat
open Go.Ev Go.Num
def rdB (X V L N i:Nat):List Blk:=[⟨false,0,1,wsD (dg L (X%(V*4294967296^i))),false,161⟩,⟨false,0,1,wsD (List.replicate i 0++dg (N+1-i) (X / (V*4294967296^i))),false,161⟩]
def RdStep (E:Oracle)(lv:PL)(X V L m N j:Nat):Prop:=∃q,E.pure 198 [.one (.lst (wsP (dg (m+3) (X%(V*4294967296^(j+1)) / 4294967296^j)))),.one lv]=some (.one (.int .u64 (.ofNat q)))/\
 ((q=X%(V*4294967296^(j+1)) / 4294967296^j / V/\E.heap 199 [.one (.own 0 0 j (m+3)),.one (.p lv),.one (.p (.int .u64 (.ofNat q)))] (rdB X V L N (j+1))=some (.one (.p (.bool false)),(rdB X V L N (j+1)).set 0 ⟨false,0,1,wsD (dg L (X%(V*4294967296^j))),false,161⟩))\/
  (q=X%(V*4294967296^(j+1)) / 4294967296^j / V+1/\∃W,E.heap 199 [.one (.own 0 0 j (m+3)),.one (.p lv),.one (.p (.int .u64 (.ofNat q)))] (rdB X V L N (j+1))=some (.one (.p (.bool true)),(rdB X V L N (j+1)).set 0 ⟨false,0,1,wsD W,false,161⟩)/\
   E.heap 200 [.one (.own 0 0 j (m+3)),.one (.p lv)] ((rdB X V L N (j+1)).set 0 ⟨false,0,1,wsD W,false,161⟩)=some (.tup [],(rdB X V L N (j+1)).set 0 ⟨false,0,1,wsD (dg L (X%(V*4294967296^j))),false,161⟩)))
theorem rd_step {B:Base}(hB:Std B){lv:PL}{X V L m N j:Nat}(hL:L=N+(m+3))(hN:N<1000000000)(hm:m<1000000000)(hj:j<N+1)(sv:IsW lv V)(hV:Norm V (m+2))(hV0:0<V)(hvl:(Xc V).length=m+2):Evt B fun E _=>RdStep E lv X V L m N j:=by
 have hVn:=hV.2
 have hVn3:V<4294967296^(m+3):=Yt hVn (Nat.pow_lt_pow_right (by decide) (Nat.lt_succ_self _))
 obtain⟨s1,s2,s3⟩:=left_step (X:=X) (V:=V) (L:=L) (N:=N) (n:=m+2) (j:=j) (by omega) hV0 hVn
 unfold RdStep
 obtain⟨U,eU⟩:∃U,U=X%(V*4294967296^(j+1)) / 4294967296^j:=⟨_,rfl⟩
 obtain⟨low,el⟩:∃low,low=dg j (X%(V*4294967296^(j+1))):=⟨_,rfl⟩
 have hlow:low.length=j:=by rw[el,XH]
 rw[<-eU,<-el]at s1 s2
 rw[<-eU]at s3⊢
 have hUn:U<4294967296^(m+3):=by
  have:=Ye hVn (show 0<4294967296 by decide)
  rw[<-ZD]at this
  exact Yt s3 this
 have hb:(rdB X V L N (j+1))[0]? =some ⟨false,0,1,wsD (low++(dg (m+3) U++List.replicate (N-j) 0)),false,161⟩:=by
  show some (Blk.mk false 0 1 (wsD (dg L (X%(V*4294967296^(j+1))))) false 161)=_
  rw[s1]
 obtain⟨q,g1,g2,g3,g4⟩:=guess_ret hB (lu:=.lst (wsP (dg (m+3) U))) .lst sv hvl (by omega) hV s3 (fun i hi=>by
  have :Xc V=dg (m+2) V:=V8 (Xj V) hvl (Xg V)
  rw[this,get_dg hi]) (fun i hi=>get_dg hi)
 obtain⟨Y,b,l1,l2,l3,l4⟩:=lessen_ret hB (H:=rdB X V L N (j+1)) (iu:=0) (n:=m+2) hlow (by omega) hV0 hVn sv hUn g2 hb
 have hR:=ZN U hV0
 rcases Yn q (U / V+1)with hc|hc
 ·have hq:q=U / V:=by omega
  obtain⟨b0,y0⟩:=l3 hq
  rw[b0,y0,<-s2]at l1
  refine(g1.evt.and l1.evt).mono fun E K ⟨e1,e2⟩=>⟨q,e1,.inl ⟨hq,?_⟩⟩
  exact e2
 ·have hq:q=U / V+1:=by omega
  obtain⟨b0,y0⟩:=l4 hq
  rw[b0]at l1
  have hb2:((rdB X V L N (j+1)).set 0 ⟨false,0,1,wsD (low++(dg (m+2+1) Y++List.replicate (N-j) 0)),false,161⟩)[0]? =some ⟨false,0,1,wsD (low++(dg (m+3) Y++List.replicate (N-j) 0)),false,161⟩:=rfl
  have r1:=restore_ret hB hlow (show m+3<100000000000 by omega) hVn3 sv l2 (Yt hR hVn3) y0 hb2
  rw[<-s2,List.set_set]at r1
  exact(g1.evt.and (l1.evt.and r1.evt)).mono fun E K ⟨e1,e2,e3⟩=>⟨q,e1,.inr ⟨hq,_,e2,e3⟩⟩
theorem rd_loop {E:Oracle}{K:Nat}{lv:PL}{X V L m N d:Nat}(hL:L=N+(m+3))(hN:N<1000000000)(hm:m<1000000000)(hmd:E.mode=md)(hV0:0<V)(hVn:V<4294967296^(m+2))
  (hq:∀j,j<N+1->RdStep E lv X V L m N j):
  ∀(i:Nat),i<=N+1->∀k,i<k->∃T',Xa E K 0 [8,9,10,11,12,13] x172_1 k ⟨[(8,.one (.p (.int .i64 (.ofNat (m+2))))),(9,.one (.p (.int .u64 (.ofNat d)))),(10,.one (.p lv)),(11,.one (.own 0 0 0 L)),(12,.one (.own 1 0 0 (N+1))),(13,.one (.p (.int .i64 (pI i))))],rdB X V L N i⟩=some (.exit 0,⟨T',rdB X V L N 0⟩)/\
   Xf T' 9=some (.one (.p (.int .u64 (.ofNat d))))/\Xf T' 11=some (.one (.own 0 0 0 L))/\Xf T' 12=some (.one (.own 1 0 0 (N+1)))
 |_,_,0,h=>by omega
 |0,_,k+1,_=>by
  apply ex1
  ·obtain⟨cE,lK,oD,oS,oR,dS,dD,e1,e2,e3,e4,e5,e6,e7,hLo,R⟩:=EVR
   rw[<-e2,hLo]
   simp only[EVQ,R,EVN,reduceIte,Nat.reduceEqDiff,x172_1,pI_zero]
   rfl
  ·simp only[EVS,reduceIte,Nat.reduceEqDiff,and_self]
 |j+1,hj,k+1,hk=>by
  obtain⟨T',g1,g2⟩:=rd_loop (K:=K) hL hN hm hmd hV0 hVn hq j (by omega) k (by omega)
  refine⟨T',?_,g2⟩
  obtain⟨s1,-,s3⟩:=left_step (X:=X) (V:=V) (L:=L) (N:=N) (n:=m+2) (j:=j) (by omega) hV0 hVn
  obtain⟨q,h1,h2⟩:=hq j (by omega)
  have hstep:=quot_step (X:=X) (V:=V) (N:=N) (j:=j) (by omega)
  obtain⟨U,eU⟩:∃U,U=X%(V*4294967296^(j+1)) / 4294967296^j:=⟨_,rfl⟩
  rw[<-eU]at h1 h2 hstep s1 s3
  obtain⟨Q,eQ⟩:∃Q,Q=U / V:=⟨_,rfl⟩
  have hQ:Q<4294967296:=by rw[eQ];exact Yb s3
  rw[<-eQ]at h2 hstep
  have f1:Xd .i64 (.ofNat (j+(m+2)))=.ofNat (j+(m+2)):=wrap_i64 (by omega)
  have f2:Xd .i64 (.ofNat (j+(m+2)+1))=.ofNat (j+(m+2)+1):=wrap_i64 (by omega)
  have f3:Xd .i64 (.ofNat j-.ofNat 1)=pI j:=WV (by omega)
  have fb:(rdB X V L N (j+1))[0]? =some ⟨false,0,1,wsD (dg L (X%(V*4294967296^(j+1)))),false,161⟩:=rfl
  have f4:X6 1 (Xi (rdB X V L N (j+1))) (.own 0 0 0 L) j (some (j+(m+2)+1))=some (.own 0 0 j (m+3),[0]):=by
   rw[slice_own (b:=⟨false,0,1,wsD (dg L (X%(V*4294967296^(j+1)))),false,161⟩) rfl (by omega) (by omega) rfl,ZY,show j+(m+2)+1-j=m+3 by omega]
  have f9:((wsD (dg L (X%(V*4294967296^(j+1))))).drop j).take (m+3)=wsD (dg (m+3) U):=by
   rw[s1,wsD_drop,List.drop_left' (XH _ _),wsD_take,List.take_left' (XH _ _)]
  have f10:j+(m+3)<=L:=by omega
  have f5:((rdB X V L N (j+1)).set 0 ⟨false,0,1,wsD (dg L (X%(V*4294967296^j))),false,161⟩)[1]? =some ⟨false,0,1,wsD (List.replicate (j+1) 0++dg (N-j) (X / (V*4294967296^(j+1)))),false,161⟩:=by
   show some (Blk.mk false 0 1 (wsD (List.replicate (j+1) 0++dg (N+1-(j+1)) (X / (V*4294967296^(j+1))))) false 161)=_
   rw[Nat.add_sub_add_right]
  have f6:=XB (get_rep 0 j (dg (N-j) (X / (V*4294967296^(j+1)))))
  have f7:((rdB X V L N (j+1)).set 0 ⟨false,0,1,wsD (dg L (X%(V*4294967296^j))),false,161⟩).set 1 ⟨false,0,1,wsD (List.replicate j 0++dg (N+1-j) (X / (V*4294967296^j))),false,161⟩=rdB X V L N j:=rfl
  have f8:j<N+1:=by omega
  have f11:Q%4294967296=Q:=Zd hQ
  have f12:Xd .u64 (.ofNat (Q+1)-.ofNat 1)=.ofNat Q:=by rw[Um (by omega),wrap_u64,Z6,Zd (by omega)]
  have f13:=XH L (X%(V*4294967296^(j+1)))
  generalize dg L (X%(V*4294967296^(j+1)))=A at *
  generalize rdB X V L N (j+1)=D at *
  generalize (D.set 0 ⟨false,0,1,wsD (dg L (X%(V*4294967296^j))),false,161⟩)=D1 at *
  generalize rdB X V L N j=D2 at *
  generalize rdB X V L N 0=D3 at *
  generalize dg (N-j) (X / (V*4294967296^(j+1)))=l1 at *
  generalize dg (N+1-j) (X / (V*4294967296^j))=l2 at *
  clear eU eQ s1 s3
  obtain⟨cE,lK,oD,oS,oR,dS,dD,e1,e2,e3,e4,e5,e6,e7,hLo,R⟩:=EVR
  rw[<-e2]at g1⊢
  rw[hLo]
  rcases h2 with⟨rfl,h2⟩|⟨rfl,W,h2,h3⟩
  ·simp only[EVQ,R,EVH,EVN,reduceIte,Nat.reduceEqDiff,Nat.reduceLeDiff,Zr,x172_1,pI_succ,hmd,MDS,h1,h2,f1,f2,f3,f4,f5,f6,f8,f9,f10,f11,f13,fb,Ws,Vb,Vl,X5,set_rep,hstep,f7]
   exact g1
  ·simp only[EVQ,R,EVH,EVN,reduceIte,Nat.reduceEqDiff,Nat.reduceLeDiff,Zr,x172_1,pI_succ,hmd,MDS,h1,h2,h3,f1,f2,f3,f4,f5,f6,f8,f9,f10,f11,f12,f13,fb,Ws,Vb,Vl,X5,set_rep,hstep,f7]
   exact g1
theorem divided_ret {B:Base}(hB:Std B){la lb:PL}{x y:Nat}(sa:IsW la x)(sb:IsW lb y)(hx:(Xc x).length<100000000)(hy:(Xc y).length<100000000)(hy0:0<y):
  ∃q r,Ret B 172 [.one la,.one lb] (.tup [.one q,.one r])/\IsW q (x / y)/\IsW r (x%y):=by
 have hc:=compared_ret hB sa sb (Xj _) (Xj _) (Wh _) (Wh _) (by omega) (by omega)
 rw[Xg,Xg]at hc
 by_cases hlt:x<y
 ·refine⟨.nilS,la,Ret.of (hB.tab _ _ rfl) ((hc.evt.and hB.evt).mono fun E K ⟨e3,hmd⟩=> ?_),?_,?_⟩
  ·simp only[EVS,EVN,reduceIte,Nat.reduceEqDiff,Nat.reduceLeDiff,x172,hmd,MDS,e3,Ta,hlt]
  ·rw[YD hlt];exact IsW.zero
  ·rw[Zd hlt];exact sa
 by_cases h1:(Xc y).length=1
 ·obtain⟨k1,k2⟩:=Tu.1 h1
  have hi:(Xc y)[0]? =some y:=by rw[words_small k1 k2];rfl
  have hd:=rshort_ret hB sa (Xj _) (by omega) k1 k2
  rw[Xg]at hd
  have hmlt:=ZN x hy0
  have hw:=TD hB (m:=x%y) (by omega)
  have f1:y%18446744073709551616=y:=Zd (by omega)
  refine⟨_,_,Ret.of (hB.tab _ _ rfl) ((hc.evt.and (hd.evt.and (hw.evt.and hB.evt))).mono fun E K ⟨e3,e4,e5,hmd⟩=> ?_),.lst,.lst⟩
  simp only[EVS,EVN,reduceIte,Nat.reduceEqDiff,Nat.reduceLeDiff,x172,hmd,MDS,e3,e4,e5,Ta,hlt,sb.len,h1,sb.idx hi,f1]
 have hly:2<=(Xc y).length:=by
  have :(Xc y).length≠0:=by rw[Ne,Wn];omega
  omega
 obtain⟨m,hm⟩:∃m,(Xc y).length=m+2:=⟨(Xc y).length-2,by omega⟩
 obtain⟨t1,t2,t3,t4⟩:=top_word (n:=m+1) hm
 obtain⟨w,ew⟩:∃w,w=y / 4294967296^(m+1):=⟨_,rfl⟩
 rw[<-ew]at t1 t2 t3
 obtain⟨d,ed⟩:∃d,d=4294967296 / (w+1):=⟨_,rfl⟩
 obtain⟨hN,hd0,hd1⟩:=norm_ref ew t2 t3 ed
 have hle:=Xs (Nat.le_of_not_lt hlt)
 obtain⟨N,eN⟩:∃N,(Xc x).length=N+(m+2):=⟨(Xc x).length-(m+2),by omega⟩
 obtain⟨V,eV⟩:∃V,V=y*d:=⟨_,rfl⟩
 obtain⟨X,eX⟩:∃X,X=x*d:=⟨_,rfl⟩
 have hV0:0<V:=by rw[eV];exact Nat.mul_pos hy0 hd0
 rw[<-eV]at hN
 have hVn:=hN.2
 have hx1:=V2 x
 rw[eN]at hx1
 have hXV:X<V*4294967296^(N+1):=by
  have a2:X<4294967296^(N+(m+2))*d:=by rw[eX];exact Ye hx1 hd0
  have a3:=Zn (d*4294967296^(N+1)) t4
  have a4:4294967296^(m+1)*(d*4294967296^(N+1))=4294967296^(N+(m+2))*d:=by
   rw[Nat.mul_left_comm,<-Nat.pow_add,show m+1+(N+1)=N+(m+2)by omega,ZE]
  rw[a4,<-Yj,<-eV]at a3
  exact ZQ a2 a3
 have hXl:X<4294967296^(N+(m+2)+1):=by
  rw[eX,ZD];exact Nat.mul_lt_mul'' hx1 hd1
 have hvl:(Xc V).length=m+2:=by
  have a1:=WD hVn
  have a2:y<=V:=by rw[eV];exact Nat.le_mul_of_pos_right _ hd0
  have a3:=Xs a2
  rw[hm]at a3
  omega
 have hq1:X / V=x / y:=by rw[eX,eV,Nat.mul_div_mul_right _ _ hd0]
 have hq2:X%V / d=x%y:=by rw[eX,eV,Nat.mul_mod_mul_right,Nat.mul_div_cancel _ hd0]
 have hXm:X%V<4294967296^(m+2):=Yt (ZN _ hV0) hVn
 have hXm2:X%V<4294967296^(N+(m+2)+1):=ZQ hXm (WA (by omega))
 have hwd:=TD hB (m:=d) (by omega)
 have hdl:(Xc d).length<=2:=words_len64 (by omega)
 have c1:=times_ret hB sb (lb:=.lst (wsP (Xc d))) .lst (Xj _) (Xj _) (by omega)
 have c2:=times_ret hB sa (lb:=.lst (wsP (Xc d))) .lst (Xj _) (Xj _) (by omega)
 rw[Xg,Xg,<-eV]at c1
 rw[Xg,Xg,<-eX]at c2
 have c3:Evt B fun E _=>∀j,j<N+1->RdStep E (.lst (wsP (Xc V))) X V (N+(m+3)) m N j:=Evt.all (N+1) fun j hj=>rd_step hB rfl (by omega) (by omega) hj .lst hN hV0 hvl
 have c4:=UF hB (ws:=dg (N+1) (x / y)) (by rw[XH];omega)
 rw[Ul (by rw[<-hq1];exact Yb hXV)]at c4
 have c5:=UF hB (ws:=dg (N+(m+2)+1) (X%V)) (by rw[XH];omega)
 rw[Ul hXm2]at c5
 have c6:=rshort_ret hB (la:=.lst (wsP (Xc (X%V)))) .lst (Xj _) (by have:=WD hXm;omega) hd0 hd1
 rw[Xg,hq2]at c6
 refine⟨_,_,Ret.of (hB.tab _ _ rfl) ((hc.evt.and (hwd.evt.and (c1.evt.and (c2.evt.and (c3.and (c4.evt.and (c5.evt.and (c6.evt.and (hB.evt.and (Evt.ge (N+2))))))))))).mono fun E K ⟨e3,e4,e5,e6,e7,e8,e9,e10,hmd,hK⟩=> ?_),.lst,.lst⟩
 obtain⟨T',g1,g2,g3,g4⟩:=rd_loop (K:=K) (d:=d) rfl (by omega) (by omega) hmd hV0 hVn e7 (N+1) (Zg _) K (by omega)
 have d1:rdB X V (N+(m+3)) N (N+1)=[⟨false,0,1,wsD (dg (N+(m+2)+1) X),false,161⟩,⟨false,0,1,wsD (List.replicate (N+1) 0),false,161⟩]:=by
  unfold rdB
  rw[Zd hXV,YN,show dg 0 (X / (V*4294967296^(N+1)))=[]from rfl,ZO]
  rfl
 have d2:rdB X V (N+(m+3)) N 0=[⟨false,0,1,wsD (dg (N+(m+3)) (X%V)),false,161⟩,⟨false,0,1,wsD (dg (N+1) (X / V)),false,161⟩]:=by
  unfold rdB
  rw[Nat.pow_zero,Yd]
  rfl
 rw[d1,d2,hq1]at g1
 have f6:(Int.ofNat N:Int)=pI (N+1):=rfl
 rw[<-f6]at g1
 have z1:N+(m+3)=N+(m+2)+1:=rfl
 rw[z1]at g1 g3
 have f1:Xd .i64 (.ofNat (m+2)-.ofNat 1)=.ofNat (m+1):=by rw[XI (by omega) (by omega)];rfl
 have f2:Xd .i64 (.ofNat (N+(m+2))-.ofNat (m+2))=.ofNat N:=by rw[XI (by omega) (by omega),Z6]
 have f3:Xd .i64 (.ofNat (N+1))=.ofNat (N+1):=wrap_i64 (by omega)
 have f4:4*(N+1)<=lim:=by unfold lim;omega
 have f5:N+1<=9223372036854775807:=by omega
 have f7:Xd .i64 (.ofNat (N+(m+2)+1))=.ofNat (N+(m+2)+1):=wrap_i64 (by omega)
 have f8:4*(N+(m+2)+1)<=lim:=by unfold lim;omega
 have f9:N+(m+2)+1<=9223372036854775807:=by omega
 have f10:w%18446744073709551616=w:=Zd (by omega)
 have f11:(w+1)%18446744073709551616=w+1:=Zd (by omega)
 have f12:Ua .u64 (.ofNat 4294967296) (.ofNat (w+1))=some (.p (.int .u64 (.ofNat d))):=by
  show some (DL.p (.int .u64 (Xd .u64 (.ofNat (4294967296 / (w+1))))))=_
  rw[<-ed,wrap_u64,Zd (by omega)]
 have n1:¬m+2=1:=by omega
 have hcp:copyIn 0 1 0 0 0 (N+(m+2)+1) ⟨false,0,1,wsD (List.replicate (N+(m+2)+1) 0),false,161⟩ (wsD (Xc X)) []=some ⟨.one (.p (.int .i64 (.ofNat (Nat.min (N+(m+2)+1) (wsD (Xc X)).length)))),[],[(0,⟨false,0,1,wsD (dg (N+(m+2)+1) X),false,161⟩)],[0]⟩:=by
  have hlX:=WD hXl
  have e1:dg (N+(m+2)+1) X=Xc X++List.replicate (N+(m+2)+1-(Xc X).length) 0:=by
   refine(V8 (fun q hq=> ?_) (by simp;omega) ?_).symm
   ·rcases Z3.1 hq with h|h
    ·exact Xj X q h
    ·exact Dig.replicate _ q h
   ·rw[SP,Xg,W5,Nat.mul_zero,Yu]
  have e2:(wsD (List.replicate (N+(m+2)+1) 0)).length=N+(m+2)+1:=by rw[Ws];simp
  simp only[copyIn,e2,all_wsD,ZY,T5 (Zg _),Bool.not_false,Bool.and_true,cond_true,List.take_zero,ZL,show Nat.beq 0 0=true from rfl,show Nat.beq 1 1=true from rfl,Bool.true_or]
  rw[show(wsD (Xc X)).take (N+(m+2)+1)=wsD (Xc X)from Ze (by rw[Ws];omega),Ws,show Nat.min (N+(m+2)+1) (Xc X).length=(Xc X).length from Nat.min_eq_right (by omega),wsD_drop,List.drop_replicate,e1]
  simp[wsD]
 have hck:∀h,XX h (.p (.lst (wsP (Xc X))))=some (wsD (Xc X),[]):=fun h=>by
  show some ((wsP (Xc X)).map (·.map DL.p),[])=_
  rw[wsP_map]
 obtain⟨cE,lK,oD,oS,oR,dS,dD,k1,k2,k3,k4,k5,k6,k7,hLo,R⟩:=EVR
 rw[<-k2]at g1
 simp(decide:=true)only[EVQ,R,EVH,EVN,reduceIte,Nat.reduceAdd,x172,hmd,MDS,e3,e4,e5,e6,e8,e9,e10,Ta,hlt,sa.len,sb.len,hm,eN,sb.idx t1,f1,f2,f3,f4,f5,f7,f8,f9,f10,f11,f12,n1,hck,hcp,Zg,VU,g1,g2,g3,g4,Ws,XH,Vb,Vl,VY _ (YG (XH (N+1) (x / y))),VY _ (YG (XH (N+(m+2)+1) (X%V)))]
def SmR (z:Int):Prop:=(Xc z.natAbs).length<100000000
theorem SmR.sm {z:Int}(h:SmR z):Sm z:=by unfold SmR at h;unfold Sm;omega
theorem common_loop {B:Base}(hB:Std B):∀(y x:Nat) (lx ly:PL),IsW lx x->IsW ly y->(Xc x).length<100000000->(Xc y).length<100000000->
  ∃(ret:Bool) (r:PL),IsW r (Nat.gcd x y)/\Evt B fun E K=>∀(k:Nat),y<k->
   ∃T',Xa E K 0 [0,1] x143_1 k ⟨[(0,.one (.p lx)),(1,.one (.p ly))],[]⟩=
    (bif ret then some (.ret,⟨T',[]⟩)else some (.exit 0,⟨T',[]⟩))/\(ret=true->Xf T' 4=some (.one (.p r)))/\(ret=false->Xf T' 0=some (.one (.p r))):=by
 intro y
 induction y using Nat.strongRecOn with
 |ind y ih=>
  intro x lx ly sx sy hx hy
  rcases Z0 y with h0|h0
  ·subst h0
   refine⟨false,lx,by rw[Nat.gcd_zero_right];exact sx,Evt.of fun K n k hk=> ?_⟩
   obtain⟨k,rfl⟩:∃k',k=k'+1:=⟨k-1,by omega⟩
   have hlen:=sy.len
   rw[Wm]at hlen
   apply ex1
   ·obtain⟨cE,lK,oD,oS,oR,dS,dD,k1,k2,k3,k4,k5,k6,k7,hLo,R⟩:=EVR
    rw[<-k2,hLo]
    simp only[EVQ,R,EVN,reduceIte,Nat.reduceEqDiff,x143_1,hlen,ZA]
    rfl
   ·simp only[EVS,reduceIte,Nat.reduceEqDiff,forall_const,Zs,false_implies,and_self]
  have hly:0<(Xc y).length:=by
   have :(Xc y).length≠0:=by rw[Ne,Wn];omega
   omega
  by_cases hb:(Xc x).length<=2/\(Xc y).length<=2
  ·have v1:=rnumber_ret hB sx (Xj x) hb.1
   have v2:=rnumber_ret hB sy (Xj y) hb.2
   rw[Xg]at v1 v2
   have bx:=w64 hb.1
   have by':=w64 hb.2
   have hg:Nat.gcd x y<18446744073709551616:=Z5 (Nat.gcd_le_right x h0) by'
   have v3:=reuclid_ret hB bx by'
   have v4:=TD hB hg
   have q1:=hb.1
   have q2:=hb.2
   refine⟨true,.lst (wsP (Xc (Nat.gcd x y))),.lst,(v1.evt.and (v2.evt.and (v3.evt.and (v4.evt.and hB.evt)))).mono fun E K ⟨e1,e2,e3,e4,hmd⟩ k hk=> ?_⟩
   obtain⟨k,rfl⟩:∃k',k=k'+1:=⟨k-1,by omega⟩
   apply ex1
   ·obtain⟨cE,lK,oD,oS,oR,dS,dD,k1,k2,k3,k4,k5,k6,k7,hLo,R⟩:=EVR
    rw[<-k2,hLo]
    simp only[EVQ,R,EVN,reduceIte,Nat.reduceEqDiff,x143_1,sx.len,sy.len,hly,q1,q2,hmd,MDS,e1,e2,e3,e4]
    rfl
   ·simp only[EVS,reduceIte,Nat.reduceEqDiff,Bool.true_eq_false,false_implies,forall_const,and_self]
  ·obtain⟨q,r,d1,d2,d3⟩:=divided_ret hB sx sy hx hy h0
   have hr:=ZN x h0
   have hlr:(Xc (x%y)).length<100000000:=Z5 (Xs (Nat.le_of_lt hr)) hy
   obtain⟨rt,r2,i1,i3⟩:=ih (x%y) hr y ly r sy d3 hy hlr
   have eg:Nat.gcd x y=Nat.gcd y (x%y):=by rw[Nat.gcd_comm,Nat.gcd_rec,Nat.gcd_comm]
   rw[<-eg]at i1
   refine⟨rt,r2,i1,(d1.evt.and (i3.and hB.evt)).mono fun E K ⟨e1,e2,hmd⟩ k hk=> ?_⟩
   obtain⟨k,rfl⟩:∃k',k=k'+1:=⟨k-1,by omega⟩
   obtain⟨T',g1,g2⟩:=e2 k (by omega)
   refine⟨T',?_,g2⟩
   obtain⟨cE,lK,oD,oS,oR,dS,dD,k1,k2,k3,k4,k5,k6,k7,hLo,R⟩:=EVR
   rw[<-k2]at g1⊢
   rw[hLo]
   by_cases q1:(Xc x).length<=2
   ·have q2:¬(Xc y).length<=2:=fun h=>hb ⟨q1,h⟩
    simp only[EVQ,R,EVN,reduceIte,Nat.reduceEqDiff,x143_1,sx.len,sy.len,hly,q1,q2,hmd,MDS,e1]
    exact g1
   ·simp only[EVQ,R,EVN,reduceIte,Nat.reduceEqDiff,x143_1,sx.len,sy.len,hly,q1,hmd,MDS,e1]
    exact g1
theorem rgcd_ret {B:Base}(hB:Std B){c d:List PL}{x y:Int}(hc:IsI c x)(hd:IsI d y)(hx:SmR x)(hy:SmR y):∃e,Ret B 116 [.agg c,.agg d] (.agg e)/\IsI e (Nat.gcd x.natAbs y.natAbs):=by
 obtain⟨m,rfl,hm⟩:=hc
 obtain⟨n,rfl,hn⟩:=hd
 unfold SmR at hx hy
 obtain⟨rt,r,i1,i3⟩:=common_loop hB y.natAbs x.natAbs m n hm hn hx hy
 have hlg:(Xc (Nat.gcd x.natAbs y.natAbs)).length<1000000000000:=by
  rcases Z0 y.natAbs with h|h
  ·rw[h,Nat.gcd_zero_right];omega
  ·have:=Xs (Nat.gcd_le_right x.natAbs h);omega
 have c1:Ret B 143 [.one m,.one n] (.one r):=by
  refine Ret.of (hB.tab _ _ rfl) ((i3.and (hB.evt.and (Evt.ge (y.natAbs+1)))).mono fun E K ⟨e1,hmd,hK⟩=> ?_)
  obtain⟨T',g1,g2,g3⟩:=e1 K (by omega)
  obtain⟨cE,lK,oD,oS,oR,dS,dD,k1,k2,k3,k4,k5,k6,k7,hLo,R⟩:=EVR
  rw[<-k2]at g1
  cases rt with
  |true=>
   replace g2:=g2 rfl
   rw[cond_true]at g1
   simp only[EVQ,R,EVN,reduceIte,Nat.reduceEqDiff,Nat.reduceLeDiff,x143,g1,g2]
  |false=>
   replace g3:=g3 rfl
   rw[cond_false]at g1
   simp only[EVQ,R,EVN,reduceIte,Nat.reduceEqDiff,Nat.reduceLeDiff,x143,g1,g3]
 obtain⟨e,h2,h3⟩:=WU hB false i1 (Xj _) hlg
 rw[Xg]at h3
 replace h3:IsI e (Nat.gcd x.natAbs y.natAbs):=by simpa using h3
 refine⟨e,Ret.of (hB.tab _ _ rfl) ((c1.evt.and (h2.evt.and hB.evt)).mono fun E K ⟨e1,e2,hm2⟩=> ?_),h3⟩
 obtain⟨l,rfl,-⟩:=h3
 simp(decide:=true)only[EVS,EVN,reduceIte,Nat.reduceAdd,x116,hm2,MDS,e1,e2]
theorem added_one {B:Base}(hB:Std B){l:PL}{x:Nat}(s:IsW l x)(hx:(Xc x).length<100000000):Ret B 146 [.one l,.one (.lst [[.int .u32 (.ofNat 1)]])] (.one (.lst (wsP (Xc (x+1))))):=by
 have h:=added_ret hB s (lb:=.lst (wsP [1])) .lst (Xj x) (Dig.mk (by decide) Dig.nil) (by omega) (by decide)
 rw[Xg]at h
 exact h
theorem rdivmod_ret {B:Base}(hB:Std B){c d:List PL}{x y:Int}(hc:IsI c x)(hd:IsI d y)(hx:SmR x)(hy:SmR y)(hy0:y≠0):∃e f,Ret B 173 [.agg c,.agg d] (.tup [.agg e,.agg f,.one (.int .i64 (.ofNat 0))])/\IsI e (x / y)/\IsI f (x%y):=by
 obtain⟨m,rfl,hm⟩:=hc
 obtain⟨n,rfl,hn⟩:=hd
 unfold SmR at hx hy
 have hyp:0<y.natAbs:=by omega
 have hly:(Xc y.natAbs).length≠0:=by rw[Ne,Wn];omega
 obtain⟨q,r,d1,d2,d3⟩:=divided_ret hB hm hn hx hy hyp
 obtain⟨e1,e2⟩:=emod_natAbs x hy0
 have hr:=ZN x.natAbs hyp
 have lq:(Xc (x.natAbs / y.natAbs)).length<100000000:=Z5 (Xs (Nat.div_le_self ..)) hx
 have lr:(Xc (x.natAbs%y.natAbs)).length<100000000:=Z5 (Xs (Nat.le_of_lt hr)) hy
 by_cases hneg:x<0/\0<x.natAbs%y.natAbs
 ·have s1:=added_one hB d2 lq
  have s2:=taken_ret hB hn d3 (Xj _) (Xj _) (Xs (Nat.le_of_lt hr)) (by omega) (by rw[Xg,Xg];omega)
  rw[Xg,Xg]at s2
  simp only[if_pos hneg]at e1 e2
  have l1:(Xc (x.natAbs / y.natAbs+1)).length<1000000000000:=by
   have:=Vu (x.natAbs / y.natAbs) 1
   rw[Tu.2 (by decide:0<1/\1<4294967296)]at this
   omega
  have l2:(Xc (y.natAbs-x.natAbs%y.natAbs)).length<1000000000000:=by
   have:=Xs (Nat.sub_le y.natAbs (x.natAbs%y.natAbs));omega
  obtain⟨e,g1,g2⟩:=WU hB (decide (x<0)!=decide (y<0)) (l:=.lst (wsP (Xc (x.natAbs / y.natAbs+1)))) .lst (Xj _) l1
  obtain⟨f,g3,g4⟩:=WU hB false (l:=.lst (wsP (Xc (y.natAbs-x.natAbs%y.natAbs)))) .lst (Xj _) l2
  rw[Xg]at g2 g4
  rw[<-e1]at g2
  replace g4:IsI f (x%y):=by rw[e2];simpa using g4
  have hq:((decide (x<0)==decide (y<0))!=true)=(decide (x<0)!=decide (y<0)):=by cases decide (x<0)<;>cases decide (y<0)<;>rfl
  obtain⟨z1,z2,ez⟩:=g2.len
  obtain⟨z3,z4,ez2⟩:=g4.len
  subst ez ez2
  have n1:=hneg.1
  have n2:0<(Xc (x.natAbs%y.natAbs)).length:=by
   have :(Xc (x.natAbs%y.natAbs)).length≠0:=by rw[Ne,Wn];omega
   omega
  refine⟨_,_,Ret.of (hB.tab _ _ rfl) ((d1.evt.and (s1.evt.and (s2.evt.and (g1.evt.and (g3.evt.and hB.evt))))).mono fun E K ⟨a2,a3,a4,a5,a6,hmd⟩=> ?_),g2,g4⟩
  simp only[n1,decide_true]at a5 hq
  obtain⟨cE,lK,oD,oS,oR,dS,dD,k1,k2,k3,k4,k5,k6,k7,hLo,R⟩:=EVR
  simp(decide:=true)only[EVQ,R,EVN,reduceIte,Nat.reduceAdd,x173,hmd,MDS,a2,a3,a4,a5,a6,hn.len,hly,n1,n2,d3.len,hq]
 ·obtain⟨e,g1,g2⟩:=WU hB (decide (x<0)!=decide (y<0)) d2 (Xj _) (by omega)
  obtain⟨f,g3,g4⟩:=WU hB false d3 (Xj _) (by omega)
  simp only[if_neg hneg]at e1 e2
  rw[Xg]at g2 g4
  rw[<-e1]at g2
  replace g4:IsI f (x%y):=by rw[e2];simpa using g4
  have hq:((decide (x<0)==decide (y<0))!=true)=(decide (x<0)!=decide (y<0)):=by cases decide (x<0)<;>cases decide (y<0)<;>rfl
  obtain⟨z1,z2,ez⟩:=g2.len
  obtain⟨z3,z4,ez2⟩:=g4.len
  subst ez ez2
  refine⟨_,_,Ret.of (hB.tab _ _ rfl) ((d1.evt.and (g1.evt.and (g3.evt.and hB.evt))).mono fun E K ⟨a2,a5,a6,hmd⟩=> ?_),g2,g4⟩
  obtain⟨cE,lK,oD,oS,oR,dS,dD,k1,k2,k3,k4,k5,k6,k7,hLo,R⟩:=EVR
  by_cases n1:x<0
  ·have n2:¬0<(Xc (x.natAbs%y.natAbs)).length:=by
    have :(Xc (x.natAbs%y.natAbs)).length=0:=by rw[Wn];omega
    omega
   simp only[n1,decide_true]at a5 hq
   simp(decide:=true)only[EVQ,R,EVN,reduceIte,Nat.reduceAdd,x173,hmd,MDS,a2,a5,a6,hn.len,hly,n1,n2,d3.len,hq]
  ·simp only[n1,decide_false]at a5 hq
   simp(decide:=true)only[EVQ,R,EVN,reduceIte,Nat.reduceAdd,x173,hmd,MDS,a2,a5,a6,hn.len,hly,n1,hq]
theorem exact_ret {B:Base}(hB:Std B){c d:List PL}{x y:Int}(hc:IsI c x)(hd:IsI d y)(hx:SmR x)(hy:SmR y)(hy0:y≠0):∃e,Ret B 145 [.agg c,.agg d] (.agg e)/\IsI e (x / y):=by
 obtain⟨e,f,h1,h2,h3⟩:=rdivmod_ret hB hc hd hx hy hy0
 obtain⟨c1,c2,ec⟩:=hc.len
 obtain⟨d1,d2,ed⟩:=hd.len
 obtain⟨e1,e2,ee⟩:=h2.len
 obtain⟨f1,f2,ef⟩:=h3.len
 subst ec ed ee ef
 refine⟨_,Ret.of (hB.tab _ _ rfl) ((h1.evt.and hB.evt).mono fun E K ⟨a1,hmd⟩=> ?_),h2⟩
 simp(decide:=true)only[EVS,EVN,reduceIte,Nat.reduceAdd,x145,hmd,MDS,a1]
theorem words_gcd_le {a b:Nat}{k:Nat}(hb:0<b)(h:(Xc b).length<k):(Xc (Nat.gcd a b)).length<k:=Z5 (Xs (Nat.gcd_le_right a hb)) h
theorem rlowest_ret {B:Base}(hB:Std B){c d:List PL}{n k:Int}(hc:IsI c n)(hd:IsI d k)(hn:SmR n)(hk:SmR k)(hk0:k≠0):∃e,Ret B 117 [.agg c,.agg d] (.agg e)/\IsQ e (Rat.divInt n k):=by
 obtain⟨g,h1,hg⟩:=rgcd_ret hB hc hd hn hk
 have h2:=rsign_ret hB hd
 have hk1:0<k.natAbs:=by omega
 have hgm:SmR (Nat.gcd n.natAbs k.natAbs:Nat):=by unfold SmR at hk⊢;rw[ZV];exact words_gcd_le hk1 hk
 have hg0:0<Nat.gcd n.natAbs k.natAbs:=Nat.gcd_pos_of_pos_right _ hk1
 have dn:((Nat.gcd n.natAbs k.natAbs:Nat):Int) ∣ n:=Int.ofNat_dvd_left.2 (Nat.gcd_dvd_left ..)
 have dk:((Nat.gcd n.natAbs k.natAbs:Nat):Int) ∣ k:=Int.ofNat_dvd_left.2 (Nat.gcd_dvd_right ..)
 have en:(Rat.divInt n k).num=k.sign*n / ((Nat.gcd n.natAbs k.natAbs:Nat):Int):=by
  rw[Rat.num_divInt];congr 2;exact Nat.gcd_comm ..
 have ek:((Rat.divInt n k).den:Int)=(k.natAbs:Int) / ((Nat.gcd n.natAbs k.natAbs:Nat):Int):=by
  rw[Rat.den_divInt,if_neg hk0,<-Int.natCast_ediv];congr 2;exact Nat.gcd_comm ..
 obtain⟨c1,c2,ec⟩:=hc.len
 obtain⟨d1,d2,ed⟩:=hd.len
 obtain⟨g1,g2,eg⟩:=hg.len
 rcases Int.lt_or_lt_of_ne hk0 with hs|hs
 ·obtain⟨g',h5,hg'⟩:=rneg_ret hB hg hgm.sm
  have hgm':SmR (-((Nat.gcd n.natAbs k.natAbs:Nat):Int)):=by unfold SmR at hgm⊢;rw[Int.natAbs_neg];exact hgm
  obtain⟨e,h3,he⟩:=exact_ret hB hc hg' hn hgm' (by omega)
  obtain⟨f,h4,hf⟩:=exact_ret hB hd hg' hk hgm' (by omega)
  rw[show n / -((Nat.gcd n.natAbs k.natAbs:Nat):Int)=(Rat.divInt n k).num by rw[en,Int.sign_eq_neg_one_of_neg hs,Int.neg_mul,Int.one_mul,Int.ediv_neg,Int.neg_ediv_of_dvd dn]]at he
  rw[show k / -((Nat.gcd n.natAbs k.natAbs:Nat):Int)=((Rat.divInt n k).den:Int)by rw[ek,show(k.natAbs:Int)= -k by omega,Int.ediv_neg,Int.neg_ediv_of_dvd dk]]at hf
  obtain⟨e1,e2,ee⟩:=he.len
  obtain⟨f1,f2,ef⟩:=hf.len
  obtain⟨g3,g4,eg'⟩:=hg'.len
  subst ec ed eg ee ef eg'
  have hq:sgn k=.negSucc 0:=by unfold sgn;rw[if_neg hk0,if_pos hs]
  rw[hq]at h2
  refine⟨_,Ret.of (hB.tab _ _ rfl) ((h1.evt.and (h2.evt.and (h3.evt.and (h4.evt.and (h5.evt.and hB.evt))))).mono fun E K ⟨e1,e2,e3,e4,e5,hm2⟩=> ?_),⟨_,_,_,_,rfl,he,hf⟩⟩
  simp(decide:=true)only[EVS,EVN,reduceIte,Nat.reduceAdd,x117,hm2,MDS,e1,e2,e3,e4,e5]
 ·obtain⟨e,h3,he⟩:=exact_ret hB hc hg hn hgm (by omega)
  obtain⟨f,h4,hf⟩:=exact_ret hB hd hg hk hgm (by omega)
  rw[show n / ((Nat.gcd n.natAbs k.natAbs:Nat):Int)=(Rat.divInt n k).num by rw[en,Int.sign_eq_one_of_pos hs,Int.one_mul]]at he
  rw[show k / ((Nat.gcd n.natAbs k.natAbs:Nat):Int)=((Rat.divInt n k).den:Int)by rw[ek,show(k.natAbs:Int)=k by omega]]at hf
  obtain⟨e1,e2,ee⟩:=he.len
  obtain⟨f1,f2,ef⟩:=hf.len
  subst ec ed eg ee ef
  have hq:sgn k=.ofNat 1:=by unfold sgn;rw[if_neg hk0,if_neg (by omega)]
  rw[hq]at h2
  refine⟨_,Ret.of (hB.tab _ _ rfl) ((h1.evt.and (h2.evt.and (h3.evt.and (h4.evt.and hB.evt)))).mono fun E K ⟨e1,e2,e3,e4,hm2⟩=> ?_),⟨_,_,_,_,rfl,he,hf⟩⟩
  simp(decide:=true)only[EVS,EVN,reduceIte,Nat.reduceAdd,x117,hm2,MDS,e1,e2,e3,e4]
theorem mul_len {x y:Int}{a b:Nat}(hx:(Xc x.natAbs).length<a)(hy:(Xc y.natAbs).length<b):(Xc (x*y).natAbs).length<a+b:=by
 rw[Yi]
 have:=Vt x.natAbs y.natAbs
 omega
theorem Sq.num7 {x:Rat}(h:Sq x):(Xc x.num.natAbs).length<10000000:=h.1
theorem Sq.den7 {x:Rat}(h:Sq x):(Xc (x.den:Int).natAbs).length<10000000:=by rw[ZV];exact h.2
theorem smr_of {x:Int}(h:(Xc x.natAbs).length<100000000):SmR x:=h
theorem rAdd_q {B:Base}(hB:Std B){c d:List PL}{x y:Rat}(hc:IsQ c x)(hd:IsQ d y)(hx:Sq x)(hy:Sq y):∃e,Ret B 75 [.agg c,.agg d] (.agg e)/\IsQ e (x+y):=by
 obtain⟨n1,m1,n2,m2,rfl,hc1,hc2⟩:=hc
 obtain⟨n3,m3,n4,m4,rfl,hd1,hd2⟩:=hd
 obtain⟨p,h1,hp⟩:=rmul_ret hB hc1 hd2 hx.num hy.den
 obtain⟨q,h2,hq⟩:=rmul_ret hB hd1 hc2 hy.num hx.den
 obtain⟨r,h3,hr⟩:=rmul_ret hB hc2 hd2 hx.den hy.den
 have s1:=mul_len hx.num7 hy.den7
 have s2:=mul_len hy.num7 hx.den7
 have s3:=mul_len hx.den7 hy.den7
 obtain⟨s,h4,hs⟩:=radd_ret hB hp hq (by unfold Sm;omega) (by unfold Sm;omega)
 have s4:SmR (x.num*y.den+y.num*x.den):=by
  unfold SmR
  have h5:=Xs (Int.natAbs_add_le (x.num*y.den) (y.num*x.den))
  have h6:=Vu (x.num*y.den).natAbs (y.num*x.den).natAbs
  omega
 have hz:(x.den:Int)*y.den≠0:=Int.mul_ne_zero (by have:=x.den_nz;omega) (by have:=y.den_nz;omega)
 obtain⟨e,h5,he⟩:=rlowest_ret hB hs hr s4 (smr_of (by omega)) hz
 rw[<-Int.natCast_mul,Rat.divInt_ofNat,<-Rat.add_def']at he
 obtain⟨p1,p2,ep⟩:=hp.len
 obtain⟨q1,q2,eq⟩:=hq.len
 obtain⟨r1,r2,er⟩:=hr.len
 obtain⟨s1',s2',es⟩:=hs.len
 have he':=he
 obtain⟨a1,a2,a3,a4,ee,-,-⟩:=he'
 subst ep eq er es ee
 refine⟨_,Ret.of (hB.tab _ _ rfl) ((h1.evt.and (h2.evt.and (h3.evt.and (h4.evt.and (h5.evt.and hB.evt))))).mono fun E K ⟨e1,e2,e3,e4,e5,hm⟩=> ?_),he⟩
 simp(decide:=true)only[EVS,EVN,reduceIte,Nat.reduceAdd,x75,hm,MDS,e1,e2,e3,e4,e5]
theorem rMul_q {B:Base}(hB:Std B){c d:List PL}{x y:Rat}(hc:IsQ c x)(hd:IsQ d y)(hx:Sq x)(hy:Sq y):∃e,Ret B 121 [.agg c,.agg d] (.agg e)/\IsQ e (x*y):=by
 obtain⟨n1,m1,n2,m2,rfl,hc1,hc2⟩:=hc
 obtain⟨n3,m3,n4,m4,rfl,hd1,hd2⟩:=hd
 obtain⟨p,h1,hp⟩:=rmul_ret hB hc1 hd1 hx.num hy.num
 obtain⟨r,h3,hr⟩:=rmul_ret hB hc2 hd2 hx.den hy.den
 have s1:=mul_len hx.num7 hy.num7
 have s3:=mul_len hx.den7 hy.den7
 have hz:(x.den:Int)*y.den≠0:=Int.mul_ne_zero (by have:=x.den_nz;omega) (by have:=y.den_nz;omega)
 obtain⟨e,h5,he⟩:=rlowest_ret hB hp hr (smr_of (by omega)) (smr_of (by omega)) hz
 rw[<-Int.natCast_mul,Rat.divInt_ofNat,<-Rat.mul_def']at he
 obtain⟨p1,p2,ep⟩:=hp.len
 obtain⟨r1,r2,er⟩:=hr.len
 have he':=he
 obtain⟨a1,a2,a3,a4,ee,-,-⟩:=he'
 subst ep er ee
 refine⟨_,Ret.of (hB.tab _ _ rfl) ((h1.evt.and (h3.evt.and (h5.evt.and hB.evt))).mono fun E K ⟨e1,e3,e5,hm⟩=> ?_),he⟩
 simp(decide:=true)only[EVS,EVN,reduceIte,Nat.reduceAdd,x121,hm,MDS,e1,e3,e5]
theorem rSign_q {B:Base}(hB:Std B){c:List PL}{x:Rat}(hc:IsQ c x):Ret B 73 [.agg c] (.one (.int .i64 (sgn x.num))):=by
 obtain⟨n1,m1,n2,m2,rfl,hc1,hc2⟩:=hc
 have h1:=rsign_ret hB hc1
 refine Ret.of (hB.tab _ _ rfl) ((h1.evt.and hB.evt).mono fun E K ⟨e1,hm⟩=> ?_)
 simp(decide:=true)only[EVS,EVN,reduceIte,Nat.reduceAdd,x73,hm,MDS,e1]
theorem rWhole_q {B:Base}(hB:Std B){x:Int}(hx:S31 x):∃c,Ret B 37 [.one (.int .i64 x)] (.agg c)/\IsQ c (x:Rat):=by
 obtain⟨c,h1,n,m,d,e,h2,h3,h4⟩:=rWhole_ret hB hx
 exact⟨c,h1,n,m,d,e,h2,h3,h4⟩
end Go.Proofs.YtefpgecinlekpaaGreat
