/- Polynomials of the reference: Times. -/
import Derived.Test.YtefpgecinlekpaaGreatMon
set_option maxHeartbeats 16000000
set_option maxRecDepth 100000
namespace Go.Proofs.YtefpgecinlekpaaGreat
open Go.Ev Go.Num
def pc (es:List (List PL)):List (List DL):=es.map (·.map .p)
theorem XR (es:List (List PL)):(pc es).length=es.length:=by simp[pc]
theorem WK (es:List (List PL))(x y z u:PL)(m:List Nat):pc es++[.p x::.p y::.p z::.p u::moD m]=pc (es++[x::y::z::u::mo m]):=by
 simp[pc,moD,mo]
theorem XN (n:Nat)(h:HF):∀(m:List Nat),Xl (Xn n h) (moD m)=some (mo m)
 |[]=>rfl
 |e::m=>by
  have:=XN n h m
  simp only[moD,mo]at this
  simp only[moD,mo,Zx,Xl,frzL0,this]
theorem XP (n:Nat)(h:HF):∀(m:List Nat),(moD m).flatMap (Wt n h)=[]
 |[]=>rfl
 |e::m=>by
  have:=XP n h m
  simp only[moD]at this
  simp only[moD,Zx,Yv,idsL0,this,ZO]
theorem scal_mo (m:List Nat):(mo m).all PL.scalar=true:=by simp[mo,PL.scalar]
inductive TimesR (E:Oracle)(c:List PL)(m:List Nat):List (List PL)->List (List PL)->Prop
 |nil:TimesR E c m [] []
 |cons {x y z u:PL} {k:List Nat} {r1 r2 r3 r4:PL} {es outs:List (List PL)} (hk:XF k) (hs:XF (Xh m k)) (h1:E.pure 120 [.agg (mo m),.agg (mo k)]=some (.tup [.agg (mo (Xh m k)),.one (.int .i64 (.ofNat 0))]))
   (h2:E.pure 121 [.agg c,.agg [x,y,z,u]]=some (.agg [r1,r2,r3,r4])) (h:TimesR E c m es outs):TimesR E c m ((x::y::z::u::mo k)::es) ((r1::r2::r3::r4::mo (Xh m k))::outs)
theorem times_go {E:Oracle}{K:Nat}{l:PL}{c1 c2 c3 c4:PL}{m:List Nat}(hm8:m.length=8)(hmd:E.mode=md){all:List (List PL)}(sl:Sl l all)(hl:all.length<1000000):∀(rest outs:List (List PL)),TimesR E [c1,c2,c3,c4] m rest outs->
  ∀(i k v:Nat) (o:List (List PL)) (G:List Blk),all.drop i=rest->i+rest.length=all.length->o.length=i->rest.length<k->
  ∃T' G' v',Xa E K 0 [2,3,4,8,9] x77_1 k ⟨[(2,.one (.p l)),(3,.one (.ptr 0 0 0 0)),(4,.one (.ptr 1 0 0 0)),(8,.one (.own 2 v 0 o.length)),(9,.one (.p (.int .i64 (.ofNat i))))],⟨false,0,4,[[.p c1,.p c2,.p c3,.p c4]],false,61⟩::⟨false,0,8,[moD m],false,51⟩::⟨false,v,12,pc o,false,63⟩::G⟩=
    some (.exit 0,⟨T',⟨false,0,4,[[.p c1,.p c2,.p c3,.p c4]],false,61⟩::⟨false,0,8,[moD m],false,51⟩::⟨false,v',12,pc (o++outs),false,63⟩::G'⟩)/\Xf T' 8=some (.one (.own 2 v' 0 (o++outs).length)):=by
 intro rest outs h
 induction h with
 |nil=>
  intro i k v o G hd hi ho hk
  obtain⟨k,rfl⟩:∃k',k=k'+1:=⟨k-1,by omega⟩
  have :∃T',Xa E K 0 [2,3,4,8,9] x77_1 (k+1) ⟨[(2,.one (.p l)),(3,.one (.ptr 0 0 0 0)),(4,.one (.ptr 1 0 0 0)),(8,.one (.own 2 v 0 o.length)),(9,.one (.p (.int .i64 (.ofNat i))))],⟨false,0,4,[[.p c1,.p c2,.p c3,.p c4]],false,61⟩::⟨false,0,8,[moD m],false,51⟩::⟨false,v,12,pc o,false,63⟩::G⟩=
    some (.exit 0,⟨T',⟨false,0,4,[[.p c1,.p c2,.p c3,.p c4]],false,61⟩::⟨false,0,8,[moD m],false,51⟩::⟨false,v,12,pc o,false,63⟩::G⟩)/\Xf T' 8=some (.one (.own 2 v 0 o.length)):=by
   have hlt:¬i<all.length:=by simp at hi;omega
   apply ex1
   ·rw[Xa]
    simp only[EVS,EVN,reduceIte,Nat.reduceEqDiff,x77_1,sl.len,hlt]
    rfl
   ·simp only[EVS,reduceIte,Nat.reduceEqDiff]
  obtain⟨T',g1,g2⟩:=this
  exact⟨T',G,v,by simpa using g1,by simpa using g2⟩
 |@cons x y z u kk r1 r2 r3 r4 es outs hk hs h1 h2 h ih=>
  intro i k v o G hd hi ho hkk
  obtain⟨k,rfl⟩:∃k',k=k'+1:=⟨k-1,by omega⟩
  simp only[Zi]at hi hkk
  have hlt:i<all.length:=by omega
  have hget:all[i]? =some (x::y::z::u::mo kk):=by
   have:=congrArg (·[0]?) hd
   simpa using this
  have hidx:=fun(hh:HF) (kd:IntKind)=>sl.idx (h:=hh) (k:=kd) (sz:=12) hget (by simp[Xt,hk.1])
  have hd2:all.drop (i+1)=es:=by
   have:=congrArg (List.drop 1) hd
   simpa[List.drop_drop]using this
  have f1:Xd .i64 (.ofNat (i+1))=.ofNat (i+1):=wrap_i64 (by omega)
  have f2:(o.length+1)*128<=lim:=by unfold lim;omega
  have f3:o.length+1<=9223372036854775807:=by omega
  have hk8:=hk.1
  have hs8:=hs.1
  have t1:(moD m).take 8=moD m:=Ze (by rw[Xb];omega)
  have t2:(moD kk).take 8=moD kk:=Ze (by rw[Xb];omega)
  have t3:(moD (Xh m kk)).take 8=moD (Xh m kk):=Ze (by rw[Xb];omega)
  have t4:(moD (Xh m kk)).drop 8=[]:=Zp (by rw[Xb];omega)
  obtain⟨T',G',v',g1,g2⟩:=ih (i+1) k (v+1) (o++[r1::r2::r3::r4::mo (Xh m kk)]) (G++[⟨false,0,8,[moD (Xh m kk)],false,51⟩,⟨false,0,12,[.p r1::.p r2::.p r3::.p r4::moD (Xh m kk)],false,63⟩]) hd2 (by omega) (by simp;omega) (by omega)
  refine⟨T',G',v',?_,by simpa using g2⟩
  rw[Xa]
  rw[Zq,ZX,Zm,ZT]at g1
  simp only[EVS,EVN,EVF,reduceIte,Nat.reduceEqDiff,Nat.reduceLeDiff,Nat.reduceLT,Nat.reduceAdd,x77_1,sl.len,hlt,hidx,XT,Xb,Xt,hk8,hs8,hm8,t1,t2,t3,XN,XP,hmd,MDS,h1,h2,f1,f2,f3,XR,WK,scal_mo]
  exact g1
theorem frzL_pc (n:Nat)(h:HF):∀(cs:List PL),Xl (Xn n h) (cs.map DL.p)=some cs
 |[]=>rfl
 |c::cs=>by simp only[Zx,Xl,frzL0,frzL_pc n h cs]
theorem Uv (n:Nat)(h:HF):∀(es:List (List PL)),Xl (Xl (Xn n h)) (pc es)=some es
 |[]=>rfl
 |c::es=>by
  have:=Uv n h es
  simp only[pc]at this
  simp only[pc,Zx,Xl,frzL_pc,this]
theorem V5 (es:List (List PL)){n:Nat}(h:es.length<=n):(pc es).take n=pc es:=Ze (by rw[XR];exact h)
def zM:List Nat:=[0,0,0,0,0,0,0,0]
theorem zM_ok:XF zM:=⟨rfl,by decide⟩
theorem addM_zero {m:List Nat}(h:m.length=8):Xh zM m=m:=by
 obtain⟨a,b,c,d,e,f,g,i,rfl⟩:=Sx h
 simp[Xh,zM]
inductive RAddR (E:Oracle):List (List PL)->List (List PL)->List (List PL)->Prop
 |nil:RAddR E [] [] []
 |leftE {x y z u:PL} {m:List Nat} {ps os:List (List PL)} (hm:XF m) (h:RAddR E ps [] os):RAddR E ((x::y::z::u::mo m)::ps) [] ((x::y::z::u::mo m)::os)
 |rightE {x y z u:PL} {m:List Nat} {qs os:List (List PL)} (hm:XF m) (h:RAddR E [] qs os):RAddR E [] ((x::y::z::u::mo m)::qs) ((x::y::z::u::mo m)::os)
 |leftC {x y z u x2 y2 z2 u2:PL} {m n:List Nat} {ps qs os:List (List PL)} (hm:XF m) (hn:XF n) (hc:E.pure 38 [.agg (mo m),.agg (mo n)]=some (.one (.int .i64 (.ofNat 1)))) (h:RAddR E ps ((x2::y2::z2::u2::mo n)::qs) os):
   RAddR E ((x::y::z::u::mo m)::ps) ((x2::y2::z2::u2::mo n)::qs) ((x::y::z::u::mo m)::os)
 |rightC {x y z u x2 y2 z2 u2:PL} {m n:List Nat} {ps qs os:List (List PL)} (hm:XF m) (hn:XF n) (hc:E.pure 38 [.agg (mo m),.agg (mo n)]=some (.one (.int .i64 (.negSucc 0)))) (h:RAddR E ((x::y::z::u::mo m)::ps) qs os):
   RAddR E ((x::y::z::u::mo m)::ps) ((x2::y2::z2::u2::mo n)::qs) ((x2::y2::z2::u2::mo n)::os)
 |zero {x y z u x2 y2 z2 u2 r1 r2 r3 r4:PL} {m n:List Nat} {ps qs os:List (List PL)} (hm:XF m) (hn:XF n) (hc:E.pure 38 [.agg (mo m),.agg (mo n)]=some (.one (.int .i64 (.ofNat 0))))
   (ha:E.pure 75 [.agg [x,y,z,u],.agg [x2,y2,z2,u2]]=some (.agg [r1,r2,r3,r4])) (hs:E.pure 73 [.agg [r1,r2,r3,r4]]=some (.one (.int .i64 (.ofNat 0)))) (h:RAddR E ps qs os):
   RAddR E ((x::y::z::u::mo m)::ps) ((x2::y2::z2::u2::mo n)::qs) os
 |both {x y z u x2 y2 z2 u2 r1 r2 r3 r4:PL} {m n:List Nat} {s:Int} {ps qs os:List (List PL)} (hm:XF m) (hn:XF n) (hc:E.pure 38 [.agg (mo m),.agg (mo n)]=some (.one (.int .i64 (.ofNat 0))))
   (ha:E.pure 75 [.agg [x,y,z,u],.agg [x2,y2,z2,u2]]=some (.agg [r1,r2,r3,r4])) (hs:E.pure 73 [.agg [r1,r2,r3,r4]]=some (.one (.int .i64 s))) (h0:eqF s (.ofNat 0)=false) (h:RAddR E ps qs os):
   RAddR E ((x::y::z::u::mo m)::ps) ((x2::y2::z2::u2::mo n)::qs) ((r1::r2::r3::r4::mo m)::os)
theorem Xq {α:Type}{l r:List α}{i:Nat}{c:α}(h:l.drop i=c::r):l[i]? =some c/\l.drop (i+1)=r:=by
 have h1:=congrArg (·[0]?) h
 have h2:=congrArg (List.drop 1) h
 exact⟨by simpa using h1,by simpa[List.drop_drop]using h2⟩
theorem add_go {E:Oracle}{K:Nat}{lp lq:PL}(hmd:E.mode=md){allp allq:List (List PL)}(sp:Sl lp allp)(sq:Sl lq allq)(hlp:allp.length<1000000)(hlq:allq.length<1000000):∀(ps qs outs:List (List PL)),RAddR E ps qs outs->
  ∀(i j k v:Nat) (o:List (List PL)) (G:List Blk),allp.drop i=ps->allq.drop j=qs->i+ps.length=allp.length->j+qs.length=allq.length->o.length<=i+j->ps.length+qs.length<k->
  ∃T' G' v',Xa E K 0 [0,1,5,6,7] x28_1 k ⟨[(0,.one (.p lp)),(1,.one (.p lq)),(5,.one (.own 0 v 0 o.length)),(6,.one (.p (.int .i64 (.ofNat i)))),(7,.one (.p (.int .i64 (.ofNat j))))],⟨false,v,12,pc o,false,63⟩::G⟩=some (.exit 0,⟨T',⟨false,v',12,pc (o++outs),false,63⟩::G'⟩)/\Xf T' 5=some (.one (.own 0 v' 0 (o++outs).length)):=by
 intro ps qs outs h
 induction h with
 |nil=>
  intro i j k v o G hd he hi hj ho hk
  obtain⟨k,rfl⟩:∃k',k=k'+1:=⟨k-1,by omega⟩
  have h1:¬i<allp.length:=by simp at hi;omega
  have h2:¬j<allq.length:=by simp at hj;omega
  have :∃T',Xa E K 0 [0,1,5,6,7] x28_1 (k+1) ⟨[(0,.one (.p lp)),(1,.one (.p lq)),(5,.one (.own 0 v 0 o.length)),(6,.one (.p (.int .i64 (.ofNat i)))),(7,.one (.p (.int .i64 (.ofNat j))))],⟨false,v,12,pc o,false,63⟩::G⟩=some (.exit 0,⟨T',⟨false,v,12,pc o,false,63⟩::G⟩)/\Xf T' 5=some (.one (.own 0 v 0 o.length)):=by
   apply ex1
   ·rw[Xa]
    simp only[EVS,EVN,EVF,reduceIte,Nat.reduceEqDiff,x28_1,sp.len,sq.len,h1,h2]
    rfl
   ·simp only[EVS,reduceIte,Nat.reduceEqDiff]
  obtain⟨T',g1,g2⟩:=this
  exact⟨T',G,v,by simpa using g1,by simpa using g2⟩
 |@leftE x y z u m ps os hm h ih=>
  intro i j k v o G hd he hi hj ho hk
  obtain⟨k,rfl⟩:∃k',k=k'+1:=⟨k-1,by omega⟩
  simp only[Zi,Zw,Yu]at hi hj hk
  obtain⟨gp,dp⟩:=Xq hd
  have ip:=fun(hh:HF) (kd:IntKind)=>sp.idx (h:=hh) (k:=kd) (sz:=12) gp (by simp[Xt,hm.1])
  have lp1:i<allp.length:=by omega
  have lp2:¬i=allp.length:=by omega
  have m8:=hm.1
  have tm:(moD m).take 8=moD m:=Ze (by rw[Xb];omega)
  obtain rfl:j=allq.length:=by omega
  have f1:Xd .i64 (.ofNat (i+1))=.ofNat (i+1):=wrap_i64 (by omega)
  have f1b:Xd .i64 (.ofNat (allq.length+1))=.ofNat (allq.length+1):=wrap_i64 (by omega)
  have f2:(o.length+1)*128<=lim:=by unfold lim;omega
  have f3:o.length+1<=9223372036854775807:=by omega
  obtain⟨T',G',v',g1,g2⟩:=ih (i+1) allq.length k (v+1) (o++[(x::y::z::u::mo m)]) (G++[⟨false,0,12,[.p x::.p y::.p z::.p u::moD m],false,63⟩]) dp he (by first |omega|(simp only[Zi,Zw];omega)) (by first |omega|(simp only[Zi,Zw];omega)) (by simp only[Zm,ZT];omega) (by first |omega|(simp only[Zw];omega))
  refine⟨T',G',v',?_,by simpa using g2⟩
  rw[Zq,ZX,Zm,ZT]at g1
  rw[Xa]
  simp only[EVS,EVN,EVF,reduceIte,Nat.reduceEqDiff,Nat.reduceLT,Nat.reduceAdd,x28_1,sp.len,sq.len,ip,lp1,m8,tm,f1,f2,f3,XT,Xb,hmd,MDS,XR,WK]
  exact g1
 |@rightE x y z u m qs os hm h ih=>
  intro i j k v o G hd he hi hj ho hk
  obtain⟨k,rfl⟩:∃k',k=k'+1:=⟨k-1,by omega⟩
  simp only[Zi,Zw,Yu]at hi hj hk
  obtain rfl:i=allp.length:=by omega
  obtain⟨gq,dq⟩:=Xq he
  have iq:=fun(hh:HF) (kd:IntKind)=>sq.idx (h:=hh) (k:=kd) (sz:=12) gq (by simp[Xt,hm.1])
  have lq1:j<allq.length:=by omega
  have lq2:¬j=allq.length:=by omega
  have n8:=hm.1
  have tn:(moD m).take 8=moD m:=Ze (by rw[Xb];omega)
  have f1:Xd .i64 (.ofNat (allp.length+1))=.ofNat (allp.length+1):=wrap_i64 (by omega)
  have f1b:Xd .i64 (.ofNat (j+1))=.ofNat (j+1):=wrap_i64 (by omega)
  have f2:(o.length+1)*128<=lim:=by unfold lim;omega
  have f3:o.length+1<=9223372036854775807:=by omega
  obtain⟨T',G',v',g1,g2⟩:=ih allp.length (j+1) k (v+1) (o++[(x::y::z::u::mo m)]) (G++[⟨false,0,12,[.p x::.p y::.p z::.p u::moD m],false,63⟩]) hd dq (by first |omega|(simp only[Zi,Zw];omega)) (by first |omega|(simp only[Zi,Zw];omega)) (by simp only[Zm,ZT];omega) (by first |omega|(simp only[Zw];omega))
  refine⟨T',G',v',?_,by simpa using g2⟩
  rw[Zq,ZX,Zm,ZT]at g1
  rw[Xa]
  simp only[EVS,EVN,EVF,reduceIte,Nat.reduceEqDiff,Nat.reduceLT,Nat.reduceAdd,x28_1,sp.len,sq.len,ZA,iq,lq1,lq2,n8,tn,f1b,f2,f3,XT,Xb,hmd,MDS,XR,WK]
  exact g1
 |@leftC x y z u x2 y2 z2 u2 m n ps qs os hm hn hc h ih=>
  intro i j k v o G hd he hi hj ho hk
  obtain⟨k,rfl⟩:∃k',k=k'+1:=⟨k-1,by omega⟩
  simp only[Zi]at hi hj hk
  obtain⟨gp,dp⟩:=Xq hd
  have ip:=fun(hh:HF) (kd:IntKind)=>sp.idx (h:=hh) (k:=kd) (sz:=12) gp (by simp[Xt,hm.1])
  have lp1:i<allp.length:=by omega
  have lp2:¬i=allp.length:=by omega
  have m8:=hm.1
  have tm:(moD m).take 8=moD m:=Ze (by rw[Xb];omega)
  obtain⟨gq,dq⟩:=Xq he
  have iq:=fun(hh:HF) (kd:IntKind)=>sq.idx (h:=hh) (k:=kd) (sz:=12) gq (by simp[Xt,hn.1])
  have lq1:j<allq.length:=by omega
  have lq2:¬j=allq.length:=by omega
  have n8:=hn.1
  have tn:(moD n).take 8=moD n:=Ze (by rw[Xb];omega)
  have f1:Xd .i64 (.ofNat (i+1))=.ofNat (i+1):=wrap_i64 (by omega)
  have f1b:Xd .i64 (.ofNat (j+1))=.ofNat (j+1):=wrap_i64 (by omega)
  have f2:(o.length+1)*128<=lim:=by unfold lim;omega
  have f3:o.length+1<=9223372036854775807:=by omega
  obtain⟨T',G',v',g1,g2⟩:=ih (i+1) j k (v+1) (o++[(x::y::z::u::mo m)]) (G++[⟨false,0,12,[.p x::.p y::.p z::.p u::moD m],false,63⟩]) dp he (by first |omega|(simp only[Zi,Zw];omega)) (by first |omega|(simp only[Zi,Zw];omega)) (by simp only[Zm,ZT];omega) (by first |omega|(simp only[Zi];omega))
  refine⟨T',G',v',?_,by simpa using g2⟩
  rw[Zq,ZX,Zm,ZT]at g1
  rw[Xa]
  simp only[EVS,EVN,EVF,reduceIte,Nat.reduceEqDiff,Nat.reduceLeDiff,Nat.reduceLT,Nat.reduceAdd,x28_1,sp.len,sq.len,ip,lp1,m8,tm,iq,lq2,n8,tn,f1,f2,f3,XT,Xb,Xt,XN,XP,hmd,MDS,hc,XR,WK]
  exact g1
 |@rightC x y z u x2 y2 z2 u2 m n ps qs os hm hn hc h ih=>
  intro i j k v o G hd he hi hj ho hk
  obtain⟨k,rfl⟩:∃k',k=k'+1:=⟨k-1,by omega⟩
  simp only[Zi]at hi hj hk
  obtain⟨gp,dp⟩:=Xq hd
  have ip:=fun(hh:HF) (kd:IntKind)=>sp.idx (h:=hh) (k:=kd) (sz:=12) gp (by simp[Xt,hm.1])
  have lp1:i<allp.length:=by omega
  have lp2:¬i=allp.length:=by omega
  have m8:=hm.1
  have tm:(moD m).take 8=moD m:=Ze (by rw[Xb];omega)
  obtain⟨gq,dq⟩:=Xq he
  have iq:=fun(hh:HF) (kd:IntKind)=>sq.idx (h:=hh) (k:=kd) (sz:=12) gq (by simp[Xt,hn.1])
  have lq1:j<allq.length:=by omega
  have lq2:¬j=allq.length:=by omega
  have n8:=hn.1
  have tn:(moD n).take 8=moD n:=Ze (by rw[Xb];omega)
  have f1:Xd .i64 (.ofNat (i+1))=.ofNat (i+1):=wrap_i64 (by omega)
  have f1b:Xd .i64 (.ofNat (j+1))=.ofNat (j+1):=wrap_i64 (by omega)
  have f2:(o.length+1)*128<=lim:=by unfold lim;omega
  have f3:o.length+1<=9223372036854775807:=by omega
  obtain⟨T',G',v',g1,g2⟩:=ih i (j+1) k (v+1) (o++[(x2::y2::z2::u2::mo n)]) (G++[⟨false,0,12,[.p x2::.p y2::.p z2::.p u2::moD n],false,63⟩]) hd dq (by first |omega|(simp only[Zi,Zw];omega)) (by first |omega|(simp only[Zi,Zw];omega)) (by simp only[Zm,ZT];omega) (by first |omega|(simp only[Zi];omega))
  refine⟨T',G',v',?_,by simpa using g2⟩
  rw[Zq,ZX,Zm,ZT]at g1
  rw[Xa]
  simp only[EVS,EVN,EVF,reduceIte,Nat.reduceEqDiff,Nat.reduceLeDiff,Nat.reduceLT,Nat.reduceAdd,x28_1,sp.len,sq.len,ip,lp1,lp2,m8,tm,iq,lq2,n8,tn,f1b,f2,f3,XT,Xb,Xt,XN,XP,hmd,MDS,hc,XR,WK]
  exact g1
 |@zero x y z u x2 y2 z2 u2 r1 r2 r3 r4 m n ps qs os hm hn hc ha hs h ih=>
  intro i j k v o G hd he hi hj ho hk
  obtain⟨k,rfl⟩:∃k',k=k'+1:=⟨k-1,by omega⟩
  simp only[Zi]at hi hj hk
  obtain⟨gp,dp⟩:=Xq hd
  have ip:=fun(hh:HF) (kd:IntKind)=>sp.idx (h:=hh) (k:=kd) (sz:=12) gp (by simp[Xt,hm.1])
  have lp1:i<allp.length:=by omega
  have lp2:¬i=allp.length:=by omega
  have m8:=hm.1
  have tm:(moD m).take 8=moD m:=Ze (by rw[Xb];omega)
  obtain⟨gq,dq⟩:=Xq he
  have iq:=fun(hh:HF) (kd:IntKind)=>sq.idx (h:=hh) (k:=kd) (sz:=12) gq (by simp[Xt,hn.1])
  have lq1:j<allq.length:=by omega
  have lq2:¬j=allq.length:=by omega
  have n8:=hn.1
  have tn:(moD n).take 8=moD n:=Ze (by rw[Xb];omega)
  have f1:Xd .i64 (.ofNat (i+1))=.ofNat (i+1):=wrap_i64 (by omega)
  have f1b:Xd .i64 (.ofNat (j+1))=.ofNat (j+1):=wrap_i64 (by omega)
  have f2:(o.length+1)*128<=lim:=by unfold lim;omega
  have f3:o.length+1<=9223372036854775807:=by omega
  obtain⟨T',G',v',g1,g2⟩:=ih (i+1) (j+1) k v o (G++[⟨false,0,4,[[.p r1,.p r2,.p r3,.p r4]],false,61⟩]) dp dq (by first |omega|(simp only[Zi,Zw];omega)) (by first |omega|(simp only[Zi,Zw];omega)) (by omega) (by first |omega|(simp only[Zi,Zw];omega))
  refine⟨T',G',v',?_,g2⟩
  rw[Xa]
  simp only[EVS,EVN,EVF,reduceIte,Nat.reduceEqDiff,Nat.reduceLeDiff,Nat.reduceLT,Nat.reduceAdd,x28_1,sp.len,sq.len,ip,lp1,lp2,m8,tm,iq,lq2,n8,tn,f1,f1b,XT,Xb,Xt,XN,XP,hmd,MDS,hc,ha,hs]
  exact g1
 |@both x y z u x2 y2 z2 u2 r1 r2 r3 r4 m n s ps qs os hm hn hc ha hs h0 h ih=>
  intro i j k v o G hd he hi hj ho hk
  obtain⟨k,rfl⟩:∃k',k=k'+1:=⟨k-1,by omega⟩
  simp only[Zi]at hi hj hk
  obtain⟨gp,dp⟩:=Xq hd
  have ip:=fun(hh:HF) (kd:IntKind)=>sp.idx (h:=hh) (k:=kd) (sz:=12) gp (by simp[Xt,hm.1])
  have lp1:i<allp.length:=by omega
  have lp2:¬i=allp.length:=by omega
  have m8:=hm.1
  have tm:(moD m).take 8=moD m:=Ze (by rw[Xb];omega)
  obtain⟨gq,dq⟩:=Xq he
  have iq:=fun(hh:HF) (kd:IntKind)=>sq.idx (h:=hh) (k:=kd) (sz:=12) gq (by simp[Xt,hn.1])
  have lq1:j<allq.length:=by omega
  have lq2:¬j=allq.length:=by omega
  have n8:=hn.1
  have tn:(moD n).take 8=moD n:=Ze (by rw[Xb];omega)
  have f1:Xd .i64 (.ofNat (i+1))=.ofNat (i+1):=wrap_i64 (by omega)
  have f1b:Xd .i64 (.ofNat (j+1))=.ofNat (j+1):=wrap_i64 (by omega)
  have f2:(o.length+1)*128<=lim:=by unfold lim;omega
  have f3:o.length+1<=9223372036854775807:=by omega
  obtain⟨T',G',v',g1,g2⟩:=ih (i+1) (j+1) k (v+1) (o++[(r1::r2::r3::r4::mo m)]) (G++[⟨false,0,4,[[.p r1,.p r2,.p r3,.p r4]],false,61⟩,⟨false,0,12,[.p r1::.p r2::.p r3::.p r4::moD m],false,63⟩]) dp dq (by first |omega|(simp only[Zi,Zw];omega)) (by first |omega|(simp only[Zi,Zw];omega)) (by simp only[Zm,ZT];omega) (by first |omega|(simp only[Zi,Zw];omega))
  refine⟨T',G',v',?_,by simpa using g2⟩
  rw[Zq,ZX,Zm,ZT]at g1
  rw[Xa]
  simp only[EVS,EVN,EVF,reduceIte,Nat.reduceEqDiff,Nat.reduceLeDiff,Nat.reduceLT,Nat.reduceAdd,x28_1,sp.len,sq.len,ip,lp1,lp2,m8,tm,iq,lq2,n8,tn,f1,f1b,f2,f3,XT,Xb,Xt,XN,XP,hmd,MDS,hc,ha,hs,h0,XR,WK]
  exact g1
end Go.Proofs.YtefpgecinlekpaaGreat
