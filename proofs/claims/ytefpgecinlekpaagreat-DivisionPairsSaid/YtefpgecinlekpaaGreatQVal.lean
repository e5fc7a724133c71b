/- The degree of a monomial, reference. -/
import Derived.Test.YtefpgecinlekpaaGreatQBas
set_option maxHeartbeats 16000000
set_option maxRecDepth 100000
namespace Go.Proofs.YtefpgecinlekpaaGreat
open Go.Ev Go.Num
theorem degree_ret {B:Base}(hB:Std B){m:List Nat}(hm:Xx m):Ret B 32 [.agg (mo m)] (.one (.int .i64 (.ofNat (m.foldl (·+ ·) 0)))):=by
 obtain⟨h8,hb⟩:=hm
 obtain⟨a,b,c,d,e,f,g,i,rfl⟩:=eight h8
 simp only[Zj,ZH,or_false,forall_eq_or_imp,forall_eq]at hb
 obtain⟨h1,h2,h3,h4,h5,h6,h7,h9⟩:=hb
 refine Ret.of (hB.tab _ _ rfl) ((hB.evt.and (Evt.ge 9)).mono fun E K ⟨hmd,hK⟩=> ?_)
 have w:∀n,n<1000000->Xd .i64 (.ofNat n)=.ofNat n:=fun n hn=>wrap_i64 (by omega)
 have e1:=w (0+a) (by omega)
 have e2:=w (0+a+b) (by omega)
 have e3:=w (0+a+b+c) (by omega)
 have e4:=w (0+a+b+c+d) (by omega)
 have e5:=w (0+a+b+c+d+e) (by omega)
 have e6:=w (0+a+b+c+d+e+f) (by omega)
 have e7:=w (0+a+b+c+d+e+f+g) (by omega)
 have e8:=w (0+a+b+c+d+e+f+g+i) (by omega)
 have q1:=w 1 (by omega)
 have q2:=w 2 (by omega)
 have q3:=w 3 (by omega)
 have q4:=w 4 (by omega)
 have q5:=w 5 (by omega)
 have q6:=w 6 (by omega)
 have q7:=w 7 (by omega)
 have q8:=w 8 (by omega)
 simp only[ZY]at e1 e2 e3 e4 e5 e6 e7 e8
 obtain⟨k,hk⟩:∃k,K=k+9:=⟨K-9,by omega⟩
 simp only[EVS,EVN,reduceIte,Nat.reduceEqDiff,Nat.reduceLeDiff,Nat.reduceAdd,x32,x32_1,mo,List.foldl_cons,List.foldl_nil]
 rw[hk]
 simp only[Xc,EVS,EVN,reduceIte,Nat.reduceEqDiff,Nat.reduceLeDiff,Nat.reduceLT,Nat.reduceAdd,Nat.reduceMul,e1,e2,e3,e4,e5,e6,e7,e8,q1,q2,q3,q4,q5,q6,q7,q8]
theorem rsame_nil {B:Base}(hB:Std B){p q:PL}(hp:Sl p [])(hq:Sl q []):Ret B 14 [.one p,.one q] (.one (.bool true)):=by
 have h1:=hp.len
 have h2:=hq.len
 refine Ret.of (hB.tab _ _ rfl) ((hB.evt.and (Evt.ge 1)).mono fun E K ⟨hmd,hK⟩=> ?_)
 obtain⟨k,hk⟩:∃k,K=k+1:=⟨K-1,by omega⟩
 simp only[EVS,EVN,reduceIte,Nat.reduceEqDiff,Nat.reduceLeDiff,x14,x14_1,h1,h2]
 rw[hk]
 simp only[Xc,EVS,EVN,reduceIte,Nat.reduceEqDiff,h1,ZA]
theorem monoValid_ret {B:Base}(hB:Std B){m:List Nat}(hm:Xx m):Ret B 74 [.agg (mo m)] (.one (.bool true)):=by
 obtain⟨h8,hb⟩:=hm
 obtain⟨a,b,c,d,e,f,g,i,rfl⟩:=eight h8
 simp only[Zj,ZH,or_false,forall_eq_or_imp,forall_eq]at hb
 obtain⟨h1,h2,h3,h4,h5,h6,h7,h9⟩:=hb
 refine Ret.of (hB.tab _ _ rfl) ((hB.evt.and (Evt.ge 9)).mono fun E K ⟨hmd,hK⟩=> ?_)
 have n0:¬65535<a:=by omega
 have n1:¬65535<b:=by omega
 have n2:¬65535<c:=by omega
 have n3:¬65535<d:=by omega
 have n4:¬65535<e:=by omega
 have n5:¬65535<f:=by omega
 have n6:¬65535<g:=by omega
 have n7:¬65535<i:=by omega
 have q1:Xd .i64 (.ofNat 1)=.ofNat 1:=rfl
 have q2:Xd .i64 (.ofNat 2)=.ofNat 2:=rfl
 have q3:Xd .i64 (.ofNat 3)=.ofNat 3:=rfl
 have q4:Xd .i64 (.ofNat 4)=.ofNat 4:=rfl
 have q5:Xd .i64 (.ofNat 5)=.ofNat 5:=rfl
 have q6:Xd .i64 (.ofNat 6)=.ofNat 6:=rfl
 have q7:Xd .i64 (.ofNat 7)=.ofNat 7:=rfl
 have q8:Xd .i64 (.ofNat 8)=.ofNat 8:=rfl
 obtain⟨k,hk⟩:∃k,K=k+9:=⟨K-9,by omega⟩
 simp only[EVS,EVN,reduceIte,Nat.reduceEqDiff,Nat.reduceLeDiff,Nat.reduceAdd,x74,x74_1,mo]
 rw[hk]
 simp only[Xc,EVS,EVN,reduceIte,Nat.reduceEqDiff,Nat.reduceLeDiff,Nat.reduceLT,Nat.reduceAdd,Nat.reduceMul,Nat.not_lt_zero,n0,n1,n2,n3,n4,n5,n6,n7,q1,q2,q3,q4,q5,q6,q7,q8]
end Go.Proofs.YtefpgecinlekpaaGreat
namespace Go.Num
theorem canon_last:∀{ws:List Nat},Canon ws->ws≠[]->∃w,ws[ws.length-1]? =some w/\w≠0
 |[],_,h=>absurd rfl h
 |[w],h,_=>⟨w,rfl,h⟩
 |_::v::ws,h,_=>by
  obtain⟨x,h1,h2⟩:=canon_last (ws:=v::ws) h (by simp)
  exact⟨x,by simpa using h1,h2⟩
end Go.Num
namespace Go.Proofs.YtefpgecinlekpaaGreat
open Go.Ev Go.Num
theorem r1valid_ret {B:Base}(hB:Std B){c:List PL}{z:Int}(hc:IsI c z)(hz:SmR z):Ret B 113 [.agg c] (.one (.bool true)):=by
 obtain⟨m,rfl,hm⟩:=hc
 unfold SmR at hz
 refine Ret.of (hB.tab _ _ rfl) (Evt.of fun K n=> ?_)
 by_cases h0:z=0
 ·subst h0
  have h3:(Xb (0:Int).natAbs).length=0:=by rw[show(0:Int).natAbs=0 from rfl,Wb];rfl
  have h1:¬(0:Int)<0:=by omega
  simp only[EVS,EVN,reduceIte,Nat.reduceEqDiff,Nat.reduceLeDiff,Nat.reduceAdd,x113,hm.len,h3,h1]
 ·have hne:Xb z.natAbs≠[]:=by
   rw[Vm (by omega)];simp
  obtain⟨w,h1,h2⟩:=canon_last (XT z.natAbs) hne
  have hl:¬(Xb z.natAbs).length=0:=fun h=>hne (Yb h)
  have f1:Xd .i64 (Int.ofNat (Xb z.natAbs).length-Int.ofNat 1)=.ofNat ((Xb z.natAbs).length-1):=XH (by omega) (by omega)
  have ip:=fun(hh:HF) (kd:IntKind)=>hm.idx (h:=hh) (k:=kd) h1
  simp only[EVS,EVN,reduceIte,Nat.reduceEqDiff,Nat.reduceLeDiff,Nat.reduceAdd,x113,hm.len,hl,f1,ip,h2]
theorem r1cmp_nn {B:Base}(hB:Std B){c d:List PL}{x y:Nat}(hc:IsI c x)(hd:IsI d y)(hx:SmR x)(hy:SmR y):Ret B 115 [.agg c,.agg d] (.one (.int .i64 (cmpI x y))):=by
 obtain⟨m,rfl,hm⟩:=hc
 obtain⟨n,rfl,hn⟩:=hd
 unfold SmR at hx hy
 rw[ZN]at hx hy hm hn
 have h1:=S7 hB hm hn (Xi x) (Xi y) (XT x) (XT y) (by omega) (by omega)
 rw[Xe,Xe]at h1
 have n1:¬(x:Int)<0:=by omega
 have n2:¬(y:Int)<0:=by omega
 refine Ret.of (hB.tab _ _ rfl) ((h1.evt.and hB.evt).mono fun E K ⟨e1,hmd⟩=> ?_)
 simp only[EVS,EVN,reduceIte,Nat.reduceEqDiff,Nat.reduceLeDiff,Nat.reduceAdd,x115,n1,n2,hmd,MDS,e1]
theorem r2valid_ret {B:Base}(hB:Std B){c:List PL}{x:Rat}(hc:IsQ c x)(hx:Sq x):Ret B 72 [.agg c] (.one (.bool true)):=by
 obtain⟨n,a,d,b,rfl,h1,h2⟩:=hc
 have s1:SmR x.num:=by unfold SmR;have:=hx.1;omega
 have s2:SmR (x.den:Int):=by unfold SmR;rw[ZN];have:=hx.2;omega
 have g1:=r1valid_ret hB h1 s1
 have g2:=r1valid_ret hB h2 s2
 have g3:=rsign_ret hB h2
 have hp:sgn (x.den:Int)=.ofNat 1:=by
  have:=x.den_pos
  unfold sgn;rw[if_neg (by omega),if_neg (by omega)]
 rw[hp]at g3
 obtain⟨e,g4,he⟩:=rgcd_ret hB h1 h2 s1 s2
 have hg:Nat.gcd x.num.natAbs (x.den:Int).natAbs=1:=by rw[ZN];exact x.reduced
 rw[hg]at he
 obtain⟨o,g5,ho⟩:=rof_nat hB (m:=1) (by omega)
 have so:SmR ((1:Nat):Int):=by
  unfold SmR
  have:=Wo (n:=1) (k:=1) (by decide)
  rw[ZN];omega
 have g6:=r1cmp_nn hB he ho so so
 rw[show cmpI 1 1=.ofNat 0 from rfl]at g6
 obtain⟨m1,em,-⟩:=he
 obtain⟨m2,eo,-⟩:=ho
 subst em eo
 have hd1:decide (((1:Nat):Int)<0)=false:=by decide
 rw[hd1]at g4 g5 g6
 refine Ret.of (hB.tab _ _ rfl) ((g1.evt.and (g2.evt.and (g3.evt.and (g4.evt.and (g5.evt.and (g6.evt.and hB.evt)))))).mono fun E K ⟨e1,e2,e3,e4,e5,e6,hmd⟩=> ?_)
 simp(decide:=true)only[EVS,EVN,reduceIte,Nat.reduceAdd,x72,hmd,MDS,e1,e2,e3,e4,e5,e6]
inductive ValR (E:Oracle):List (List PL)->Option (List Nat)->Prop
 |nil {p:Option (List Nat)}:ValR E [] p
 |cons {x y z u:PL} {m:List Nat} {es:List (List PL)} {p:Option (List Nat)} {s:Int} (hm:m.length=8) (h1:E.pure 72 [.agg [x,y,z,u]]=some (.one (.bool true))) (h2:E.pure 73 [.agg [x,y,z,u]]=some (.one (.int .i64 s))) (hs:eqF s (.ofNat 0)=false)
   (h3:E.pure 74 [.agg (mo m)]=some (.one (.bool true))) (h4:∀n,p=some n->n.length=8/\E.pure 38 [.agg (mo n),.agg (mo m)]=some (.one (.int .i64 (.ofNat 1)))) (h:ValR E es (some m)):ValR E ((x::y::z::u::mo m)::es) p
theorem valR_evt {B:Base}(hB:Std B):∀{es:List (List PL)} {ts:List Qm},XF es ts->Sz ts->∀(p:Option (List Nat)),(∀n,p=some n->n.length=8/\∀t∈ts,XS n t.2=.ofNat 1)->DcQ ts->Evt B fun E _=>ValR E es p
 |_,_,.nil,_,_,_,_=>Evt.of fun _ _=>.nil
 |_,_,.cons (y:=t) (ys:=ts) ht h,hs,p,hp,hd=>by
  obtain⟨n,a,d,b,rfl,q,hm⟩:=ht
  have g1:=r2valid_ret hB q hs.head
  have g2:=rSign_q hB q
  have g3:=monoValid_ret hB hm
  have ih:=valR_evt hB h hs.tail (some t.2) (fun n hn=>by cases hn;exact⟨hm.1,(Zt.1 hd.pw).1⟩) hd.tail
  have hs0:=sgnF (hd.nz t (Zh ..))
  cases p with
  |none=>exact(ih.and (g1.evt.and (g2.evt.and g3.evt))).mono fun E K ⟨e0,e1,e2,e3⟩=>.cons hm.1 e1 e2 hs0 e3 (fun n hn=>by cases hn) e0
  |some n=>
   obtain⟨n8,hn⟩:=hp n rfl
   have g4:=SR hB n8 hm.1
   rw[hn t (Zh ..)]at g4
   exact(ih.and (g1.evt.and (g2.evt.and (g3.evt.and g4.evt)))).mono fun E K ⟨e0,e1,e2,e3,e4⟩=>.cons hm.1 e1 e2 hs0 e3 (fun k hk=>by cases hk;exact⟨n8,e4⟩) e0
theorem val_go {E:Oracle}{K:Nat}(hmd:E.mode=md){lp:PL}{all:List (List PL)}(sl:Sl lp all)(hl:all.length<1000000):∀{rest:List (List PL)} {p:Option (List Nat)},ValR E rest p->∀(i k:Nat) (H:List Blk),all.drop i=rest->i+rest.length=all.length->(i=0\/∃n x y z u,p=some n/\all[i-1]? =some (x::y::z::u::mo n))->rest.length<k->
  ∃T' H',Xc E K 0 [0,3] x27_1 k ⟨[(0,.one (.p lp)),(3,.one (.p (.int .i64 (.ofNat i))))],H⟩=some (.exit 0,⟨T',H'⟩):=by
 intro rest p h
 induction h with
 |nil=>
  intro i k H hd hi _ hk
  obtain⟨k,rfl⟩:∃k',k=k'+1:=⟨k-1,by omega⟩
  have hlt:¬i<all.length:=by simp at hi;omega
  apply Exists.intro;apply Exists.intro
  rw[Xc]
  simp only[EVS,EVN,reduceIte,Nat.reduceEqDiff,x27_1,sl.len,hlt]
  rfl
 |@cons x y z u m es p s hm h1 h2 hs h3 h4 h ih=>
  intro i k H hd hi hprev hk
  obtain⟨k,rfl⟩:∃k',k=k'+1:=⟨k-1,by omega⟩
  simp only[Zk]at hi hk
  have hlt:i<all.length:=by omega
  obtain⟨gp,dp⟩:=Xu hd
  have ip:=fun(hh:HF) (kd:IntKind)=>sl.idx (h:=hh) (k:=kd) (sz:=12) gp (by simp[Xr,hm])
  have f1:Xd .i64 (.ofNat (i+1))=.ofNat (i+1):=wrap_i64 (by omega)
  have tm:(moD m).take 8=moD m:=Zd (by rw[Xa];omega)
  obtain⟨T',H',g⟩:=ih (i+1) k H dp (by omega) (.inr ⟨m,x,y,z,u,rfl,by rw[Z2];exact gp⟩) (by omega)
  refine⟨T',H',?_⟩
  rw[<-g]
  by_cases h0:i=0
  ·subst h0
   rw[Xc]
   simp(decide:=true)only[EVS,EVN,EVF,EVH,reduceIte,Nat.reduceEqDiff,Nat.reduceAdd,x27_1,sl.len,hlt,ip,hmd,MDS,h1,h2,hs,h3,f1,tm,hm,XZ,Xa,Xr,XJ,XM]
  ·obtain⟨n,a,b,c,e,rfl,gq⟩:=hprev.resolve_left h0
   obtain⟨n8,h5⟩:=h4 n rfl
   have iq:=fun(hh:HF) (kd:IntKind)=>sl.idx (h:=hh) (k:=kd) (sz:=12) gq (by simp[Xr,n8])
   have f2:Xd .i64 (Int.ofNat i-Int.ofNat 1)=.ofNat (i-1):=XH (by omega) (by omega)
   have tn:(moD n).take 8=moD n:=Zd (by rw[Xa];omega)
   have hpos:0<i:=by omega
   rw[Xc]
   simp(decide:=true)only[EVS,EVN,EVF,EVH,reduceIte,Nat.reduceEqDiff,Nat.reduceAdd,x27_1,sl.len,hlt,ip,hmd,MDS,h1,h2,hs,h3,f1,tm,hm,XZ,Xa,Xr,XJ,XM,iq,f2,tn,n8,h5,hpos]
theorem r6valid_ret {B:Base}(hB:Std B){lp:PL}{ts:List Qm}(hp:PQ lp ts)(hs:Sz ts)(hd:DcQ ts)(hl:ts.length<1000000):Ret B 27 [.one lp] (.one (.bool true)):=by
 obtain⟨es,sl,hp⟩:=hp
 have hel:=hp.length
 have g1:=valR_evt hB hp hs none (fun n h=>by cases h) hd
 refine Ret.of (hB.tab _ _ rfl) ((g1.and (hB.evt.and (Evt.ge (es.length+1)))).mono fun E K ⟨e1,hmd,hK⟩=> ?_)
 obtain⟨T',H',k1⟩:=val_go (K:=K) hmd sl (by omega) e1 0 K [] rfl (by omega) (.inl rfl) (by omega)
 simp only[EVS,EVN,reduceIte,Nat.reduceEqDiff,Nat.reduceLeDiff,x27,k1]
theorem law4_zero {B:Base}(hB:Std B){X Z la lb lo:PL}{n:Nat}{ea eb:List (List PL)}(h7:Ret B 7 [] (.one (.bool true)))
  (ha:Ret B 26 [.agg [X],.one (.int .i64 (.ofNat 3)),.one (.int .i64 (.ofNat 3)),.one (.int .i64 (.ofNat 4))] (.one la)) (hb:Ret B 26 [.agg [Z],.one (.int .i64 (.ofNat 3)),.one (.int .i64 (.ofNat 3)),.one (.int .i64 (.ofNat 4))] (.one lb))
  (hO:Ret B 10 [.one (.int .u8 (.ofNat n))] (.one lo)) (sa:Sl la ea) (sb:Sl lb eb) (h0:ea.length=0\/eb.length=0)
  (hS:Ret B 24 [.one la,.one lb,.one lo] (.tup [.one .nilS,.one (.int .i64 (.ofNat 10))])):Ret B 4 [.agg [X],.agg [Z],.one (.int .u8 (.ofNat n))] (.one (.bool true)):=by
 have l1:=sa.len
 have l2:=sb.len
 refine Ret.of (hB.tab _ _ rfl) ((h7.evt.and (ha.evt.and (hb.evt.and (hO.evt.and (hS.evt.and hB.evt))))).mono fun E K ⟨e7,e1,e2,e3,e4,hmd⟩=> ?_)
 by_cases h1:ea.length=0
 ·simp(decide:=true)only[EVS,EVN,EVH,reduceIte,Nat.reduceAdd,x4,hmd,MDS,e7,e1,e2,e3,e4,l1,h1]
 ·have h2:=h0.resolve_left h1
  simp(decide:=true)only[EVS,EVN,EVH,reduceIte,Nat.reduceAdd,x4,hmd,MDS,e7,e1,e2,e3,e4,l1,l2,h1,h2]
structure L4 (B:Base)(X Z la lb lo:PL)(n:Nat)(ea eb es et:List (List PL))(u1 u2 u3 u4 v1 v2 v3 v4 t1 t2 t3 t4:PL)(mu mv mL mt mg:List Nat)(is:Bool)(g:Nat):Prop where
 h7:Ret B 7 [] (.one (.bool true))
 ha:Ret B 26 [.agg [X],.one (.int .i64 (.ofNat 3)),.one (.int .i64 (.ofNat 3)),.one (.int .i64 (.ofNat 4))] (.one la)
 hb:Ret B 26 [.agg [Z],.one (.int .i64 (.ofNat 3)),.one (.int .i64 (.ofNat 3)),.one (.int .i64 (.ofNat 4))] (.one lb)
 hO:Ret B 10 [.one (.int .u8 (.ofNat n))] (.one lo)
 sa:Sl la ea
 sb:Sl lb eb
 na:¬ea.length=0
 nb:¬eb.length=0
 hS:Ret B 24 [.one la,.one lb,.one lo] (.tup [.one (.lst es),.one (.int .i64 (.ofNat 0))])
 hT:Ret B 24 [.one lb,.one la,.one lo] (.tup [.one (.lst et),.one (.int .i64 (.ofNat 0))])
 hV:Ret B 27 [.one (.lst es)] (.one (.bool true))
 hA:Ret B 28 [.one (.lst es),.one (.lst et)] (.one (.lst []))
 hN:Ret B 14 [.one (.lst []),.one .nilS] (.one (.bool true))
 hu:Ret B 29 [.one la,.one lo] (.tup [.agg (u1::u2::u3::u4::mo mu),.one (.bool true)])
 hv:Ret B 29 [.one lb,.one lo] (.tup [.agg (v1::v2::v3::v4::mo mv),.one (.bool true)])
 mu8:mu.length=8
 mv8:mv.length=8
 mL8:mL.length=8
 mt8:mt.length=8
 mg8:mg.length=8
 hL:Ret B 30 [.agg (mo mu),.agg (mo mv)] (.agg (mo mL))
 ht:Ret B 29 [.one (.lst es),.one lo] (.tup [.agg (t1::t2::t3::t4::mo mt),.one (.bool is)])
 hc:is=true->Ret B 31 [.one lo,.agg (mo mt),.agg (mo mL)] (.one (.int .i64 (.negSucc 0)))
 hG:Ret B 33 [.agg (mo mu),.agg (mo mv)] (.agg (mo mg))
 hD:Ret B 32 [.agg (mo mg)] (.one (.int .i64 (.ofNat g)))
theorem law4_co {B:Base}(hB:Std B){X Z la lb lo rr:PL}{n:Nat}{ea eb es et:List (List PL)}{u1 u2 u3 u4 v1 v2 v3 v4 t1 t2 t3 t4:PL}{mu mv mL mt mg:List Nat}{is:Bool}{g:Nat}(h:L4 B X Z la lb lo n ea eb es et u1 u2 u3 u4 v1 v2 v3 v4 t1 t2 t3 t4 mu mv mL mt mg is g)(hg:g=0)
  (hI:Ret B 20 [.one (.lst [[la],[lb]]),.one lo] (.one (.bool true))) (hR:Ret B 34 [.one (.lst es),.one (.lst [[la],[lb]]),.one lo] (.one rr)) (sr:Sl rr []):Ret B 4 [.agg [X],.agg [Z],.one (.int .u8 (.ofNat n))] (.one (.bool true)):=by
 obtain⟨h7,ha,hb,hO,sa,sb,na,nb,hS,hT,hV,hA,hN,hu,hv,mu8,mv8,mL8,mt8,mg8,hL,ht,hc,hG,hD⟩:=h
 subst hg
 have l1:=sa.len
 have l2:=sb.len
 have l3:=sr.len
 have tu:(moD mu).take 8=moD mu:=Zd (by rw[Xa];omega)
 have tv:(moD mv).take 8=moD mv:=Zd (by rw[Xa];omega)
 have tL:(moD mL).take 8=moD mL:=Zd (by rw[Xa];omega)
 have tt:(moD mt).take 8=moD mt:=Zd (by rw[Xa];omega)
 have du:(moD mu).drop 8=[]:=Zp (by rw[Xa];omega)
 have dv:(moD mv).drop 8=[]:=Zp (by rw[Xa];omega)
 have dL:(moD mL).drop 8=[]:=Zp (by rw[Xa];omega)
 have dt:(moD mt).drop 8=[]:=Zp (by rw[Xa];omega)
 cases is with
 |true=>
  have hc:=hc rfl
  refine Ret.of (hB.tab _ _ rfl) ((h7.evt.and (ha.evt.and (hb.evt.and (hO.evt.and (hS.evt.and (hT.evt.and (hV.evt.and (hA.evt.and (hN.evt.and (hu.evt.and (hv.evt.and (hL.evt.and (ht.evt.and (hc.evt.and (hG.evt.and (hD.evt.and (hI.evt.and (hR.evt.and hB.evt)))))))))))))))))).mono fun E K ⟨e7,e1,e2,e3,e4,e5,e6,e8,e9,e10,e11,e12,e13,e14,e15,e16,e17,e18,hmd⟩=> ?_)
  cases hsc:rr.scalar<;>simp(decide:=true)only[hsc,Bool.cond_true,Bool.cond_false,EVS,EVN,EVH,reduceIte,Nat.reduceAdd,x4,hmd,MDS,e7,e1,e2,e3,e4,e5,e6,e8,e9,e10,e11,e12,e13,e14,e15,e16,e17,e18,l1,l2,l3,na,nb,XZ,Xa,mu8,mv8,mL8,mt8,tu,tv,tL,tt,XJ,XM]
 |false=>
  refine Ret.of (hB.tab _ _ rfl) ((h7.evt.and (ha.evt.and (hb.evt.and (hO.evt.and (hS.evt.and (hT.evt.and (hV.evt.and (hA.evt.and (hN.evt.and (hu.evt.and (hv.evt.and (hL.evt.and (ht.evt.and (hG.evt.and (hD.evt.and (hI.evt.and (hR.evt.and hB.evt))))))))))))))))).mono fun E K ⟨e7,e1,e2,e3,e4,e5,e6,e8,e9,e10,e11,e12,e13,e15,e16,e17,e18,hmd⟩=> ?_)
  cases hsc:rr.scalar<;>simp(decide:=true)only[hsc,Bool.cond_true,Bool.cond_false,EVS,EVN,EVH,reduceIte,Nat.reduceAdd,x4,hmd,MDS,e7,e1,e2,e3,e4,e5,e6,e8,e9,e10,e11,e12,e13,e15,e16,e17,e18,l1,l2,l3,na,nb,XZ,Xa,mu8,mv8,mL8,mt8,tu,tv,XJ,XM]
theorem law4_no {B:Base}(hB:Std B){X Z la lb lo:PL}{n:Nat}{ea eb es et:List (List PL)}{u1 u2 u3 u4 v1 v2 v3 v4 t1 t2 t3 t4:PL}{mu mv mL mt mg:List Nat}{is:Bool}{g:Nat}(h:L4 B X Z la lb lo n ea eb es et u1 u2 u3 u4 v1 v2 v3 v4 t1 t2 t3 t4 mu mv mL mt mg is g)(hg:g≠0)
  (hI:Ret B 24 [.one la,.one la,.one lo] (.tup [.one (.lst []),.one (.int .i64 (.ofNat 0))])):Ret B 4 [.agg [X],.agg [Z],.one (.int .u8 (.ofNat n))] (.one (.bool true)):=by
 obtain⟨h7,ha,hb,hO,sa,sb,na,nb,hS,hT,hV,hA,hN,hu,hv,mu8,mv8,mL8,mt8,mg8,hL,ht,hc,hG,hD⟩:=h
 have l1:=sa.len
 have l2:=sb.len
 have tu:(moD mu).take 8=moD mu:=Zd (by rw[Xa];omega)
 have tv:(moD mv).take 8=moD mv:=Zd (by rw[Xa];omega)
 have tL:(moD mL).take 8=moD mL:=Zd (by rw[Xa];omega)
 have tt:(moD mt).take 8=moD mt:=Zd (by rw[Xa];omega)
 have du:(moD mu).drop 8=[]:=Zp (by rw[Xa];omega)
 have dv:(moD mv).drop 8=[]:=Zp (by rw[Xa];omega)
 have dL:(moD mL).drop 8=[]:=Zp (by rw[Xa];omega)
 have dt:(moD mt).drop 8=[]:=Zp (by rw[Xa];omega)
 cases is with
 |true=>
  have hc:=hc rfl
  refine Ret.of (hB.tab _ _ rfl) ((h7.evt.and (ha.evt.and (hb.evt.and (hO.evt.and (hS.evt.and (hT.evt.and (hV.evt.and (hA.evt.and (hN.evt.and (hu.evt.and (hv.evt.and (hL.evt.and (ht.evt.and (hc.evt.and (hG.evt.and (hD.evt.and (hI.evt.and hB.evt))))))))))))))))).mono fun E K ⟨e7,e1,e2,e3,e4,e5,e6,e8,e9,e10,e11,e12,e13,e14,e15,e16,e17,hmd⟩=> ?_)
  simp(decide:=true)only[EVS,EVN,EVH,reduceIte,Nat.reduceAdd,x4,hmd,MDS,e7,e1,e2,e3,e4,e5,e6,e8,e9,e10,e11,e12,e13,e14,e15,e16,e17,l1,l2,na,nb,hg,XZ,Xa,mu8,mv8,mL8,mt8,tu,tv,tL,tt,XJ,XM]
 |false=>
  refine Ret.of (hB.tab _ _ rfl) ((h7.evt.and (ha.evt.and (hb.evt.and (hO.evt.and (hS.evt.and (hT.evt.and (hV.evt.and (hA.evt.and (hN.evt.and (hu.evt.and (hv.evt.and (hL.evt.and (ht.evt.and (hG.evt.and (hD.evt.and (hI.evt.and hB.evt)))))))))))))))).mono fun E K ⟨e7,e1,e2,e3,e4,e5,e6,e8,e9,e10,e11,e12,e13,e15,e16,e17,hmd⟩=> ?_)
  simp(decide:=true)only[EVS,EVN,EVH,reduceIte,Nat.reduceAdd,x4,hmd,MDS,e7,e1,e2,e3,e4,e5,e6,e8,e9,e10,e11,e12,e13,e15,e16,e17,l1,l2,na,nb,hg,XZ,Xa,mu8,mv8,mL8,mt8,tu,tv,XJ,XM]
end Go.Proofs.YtefpgecinlekpaaGreat
