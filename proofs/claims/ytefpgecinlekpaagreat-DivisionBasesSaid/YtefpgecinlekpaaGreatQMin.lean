/- Monomials sorted: what the library's sort answers, Clone, SortFunc. -/
import Derived.Test.YtefpgecinlekpaaGreatQBas
import Derived.Test.YtefpgecinlekpaaGreatGr
set_option maxHeartbeats 16000000
set_option maxRecDepth 100000
namespace Go.Num
def insMo (m:List Nat):List (List Nat)->List (List Nat)
 |[]=>[m]
 |n::l=>if XW n m=.negSucc 0 then n::insMo m l else m::n::l
def WG:List (List Nat)->List (List Nat)
 |[]=>[]
 |m::l=>insMo m (WG l)
theorem insMo_perm (m:List Nat):∀l,(insMo m l).Perm (m::l)
 |[]=>.refl _
 |n::l=>by
  unfold insMo
  split
  ·exact((insMo_perm m l).cons n).trans (.swap ..)
  ·exact .refl _
theorem Wu:∀l,(WG l).Perm l
 |[]=>.refl _
 |m::l=>(insMo_perm m _).trans ((Wu l).cons m)
end Go.Num
namespace Go.Proofs.YtefpgecinlekpaaGreat
open Go.Ev Go.Num
def monD (c:List PL):List Nat:=(Xl natO c).getD []
def VP (c:List PL):Bool:=Nat.beq c.length 8&&(Xl natO c).isSome
theorem W4 {c:List PL}(h:VP c=true):c=mo (monD c)/\XF (monD c):=by
 unfold VP at h
 rw[Zo]at h
 cases hm:Xl natO c with
 |none=>rw[hm]at h;cases h.2
 |some m=>
  obtain⟨h1,h2⟩:=natO_mo hm
  have e:monD c=m:=by unfold monD;rw[hm];rfl
  rw[e]
  refine⟨h1,?_,h2⟩
  have:=Zj h.1
  rw[h1,Xt]at this;exact this
theorem isMono_mo {m:List Nat}(h:XF m):VP (mo m)=true/\monD (mo m)=m:=by
 have h1:=mapO_mo h.2
 have h2:Nat.beq (mo m).length 8=true:=by rw[Xt,h.1];rfl
 exact⟨by unfold VP;rw[h1,h2];rfl,by unfold monD;rw[h1];rfl⟩
def cmpC (x y:List PL):Int:=XW (monD x) (monD y)
theorem cmpC_irr {x:List PL}:¬cmpC x x<0:=by unfold cmpC;rw[UR];decide
theorem cmpL_neg {m n:List Nat}:XW m n<0↔XW m n=.negSucc 0:=by
 rcases WB m n with h|h|h<;>rw[h]<;>decide
theorem cmpC_tr {x y z:List PL}(hx:VP x=true)(hy:VP y=true)(hz:VP z=true)(h1:cmpC x y<0)(h2:cmpC y z<0):cmpC x z<0:=by
 have l1:=(W4 hx).2.1
 have l2:=(W4 hy).2.1
 have l3:=(W4 hz).2.1
 unfold cmpC at *
 rw[cmpL_neg,UQ]at *
 exact UP (by omega) (by omega) h2 h1
theorem cmpC_tot {x y:List PL}(hx:VP x=true)(hy:VP y=true)(h1:¬cmpC x y<0)(h2:¬cmpC y x<0):x=y:=by
 obtain⟨e1,l1,-⟩:=W4 hx
 obtain⟨e2,l2,-⟩:=W4 hy
 unfold cmpC at *
 rw[cmpL_neg]at h1 h2
 rw[UQ]at h2
 rcases WB (monD x) (monD y)with h|h|h
 ·exact absurd h h2
 ·exact absurd h h1
 ·rw[e1,e2,Uh (by omega) h]
theorem cmpC_ntr {x y z:List PL}(hx:VP x=true)(hy:VP y=true)(hz:VP z=true)(h1:¬cmpC x y<0)(h2:¬cmpC y z<0):¬cmpC x z<0:=by
 intro h3
 by_cases h4:cmpC y x<0
 ·exact h2 (cmpC_tr hy hx hz h4 h3)
 ·exact h2 (by rw[<-cmpC_tot hx hy h1 h4];exact h3)
def SU (es:List (List PL)):List (List PL):=(WG (es.map monD)).map mo
abbrev Monos (es:List (List PL)):Prop:=∀c∈es,VP c=true
theorem mo_monD {es:List (List PL)}(h:Monos es):(es.map monD).map mo=es:=by
 rw[List.map_map]
 conv=>rhs;rw[<-List.map_id es]
 exact List.map_congr_left fun c hc=>(W4 (h c hc)).1.symm
theorem sortCe_perm {es:List (List PL)}(h:Monos es):(SU es).Perm es:=by
 have:=(Wu (es.map monD)).map mo
 rwa[mo_monD h]at this
theorem insMo_sorted {m:List Nat}(hm:m.length=8):∀{l:List (List Nat)},(∀n∈l,n.length=8)->l.Pairwise (fun x y=>¬XW y x=.negSucc 0)->(insMo m l).Pairwise fun x y=>¬XW y x=.negSucc 0
 |[],_,_=>by simp[insMo]
 |n::l,h8,h=>by
  have hn:=h8 n (Zh ..)
  have hl:∀x∈l,x.length=8:=fun x hx=>h8 x (Zc _ hx)
  obtain⟨p1,p2⟩:=Zt.1 h
  unfold insMo
  split
  ·rename_i h1
   refine Zt.2 ⟨fun x hx=> ?_,insMo_sorted hm hl p2⟩
   rcases Zk.1 ((insMo_perm m l).mem_iff.1 hx)with rfl|hx
   ·intro h2
    rw[UQ]at h1 h2
    have:=UP (by omega) (by omega) h1 h2
    rw[UR]at this;simp at this
   ·exact p1 x hx
  ·rename_i h1
   refine Zt.2 ⟨fun x hx=> ?_,h⟩
   rcases Zk.1 hx with rfl|hx
   ·exact h1
   ·intro h2
    have hx8:=hl x hx
    rcases WB n m with h3|h3|h3
    ·rw[UQ]at h2
     have:=UP (by omega) (by omega) h3 h2
     exact p1 x hx ((UQ n x).2 this)
    ·exact h1 h3
    ·have:=Uh (by omega) h3
     subst this
     exact p1 x hx h2
theorem Sb:∀{l:List (List Nat)},(∀n∈l,n.length=8)->(WG l).Pairwise fun x y=>¬XW y x=.negSucc 0
 |[],_=>.nil
 |m::l,h=>insMo_sorted (h m (Zh ..)) (fun n hn=>h n (Zc _ ((Wu l).mem_iff.1 hn))) (Sb fun x hx=>h x (Zc _ hx))
theorem sortCe_sorted {es:List (List PL)}(h:Monos es):(SU es).Pairwise fun x y=>¬cmpC y x<0:=by
 unfold SU
 have h8:∀n∈es.map monD,XF n:=fun n hn=>by
  obtain⟨c,hc,rfl⟩:=ZM.1 hn
  exact(W4 (h c hc)).2
 have hs:=Sb (l:=es.map monD) fun n hn=>(h8 n hn).1
 rw[List.pairwise_map]
 refine hs.imp_of_mem fun{x y} hx hy hn=> ?_
 unfold cmpC
 rw[(isMono_mo (h8 x ((Wu _).mem_iff.1 hx))).2,(isMono_mo (h8 y ((Wu _).mem_iff.1 hy))).2,cmpL_neg]
 exact hn
def pdqAnsM (args:List DV)(H:List Blk):Option (DV×List Blk):=
 match args with
 |[.one (.own i ver 0 n),.one (.p (.int .i64 (.ofNat 0))),.one (.p (.int .i64 (.ofNat n2))),.one (.p (.int .i64 (.ofNat lm))),.one (.p (.fn g []))]=>
  bif Nat.beq g 95&&Nat.blt lm 4611686018427387904 then
   match H[i]? with
   |some b=>match Xl (Xl unP) b.ch with
    |some es=>bif !b.mp&& !b.fz&&Nat.beq ver b.ver&&Nat.beq b.sz 8&&Nat.beq n es.length&&Nat.beq n2 es.length&&Nat.blt es.length 1000000&&es.all VP then some (.tup [],H.set i {b with ch:=(SU es).map (·.map .p)})else none
    |none=>none
   |none=>none
  else none
 |[.one (.p .nilS),.one (.p (.int .i64 (.ofNat 0))),.one (.p (.int .i64 (.ofNat 0))),.one (.p (.int .i64 (.ofNat lm))),.one (.p (.fn _ []))]=>some (.tup [],H)
 |_=>none
structure StdM (B:Base):Prop extends StdB B where
 pdqM:∀args H r,pdqAnsM args H=some r->B.E0.heap 140 args H=some r
abbrev moS (v:Nat)(es:List (List PL)):Blk:=⟨false,v,8,pc es,false,51⟩
theorem sortMo_ret {B:Base}(hB:StdM B){H:List Blk}{i v:Nat}{es:List (List PL)}(hi:H[i]? =some (moS v es))(ht:Monos es)(hl:es.length<60000):
  Va B 107 [.one (.own i v 0 es.length),.one (.p (.fn 95 []))] H (.tup []) (H.set i (moS v (SU es))):=by
 obtain⟨lm,hlm,h1⟩:=T6 hB.toStd (n:=es.length) (by omega)
 have e1:Nat.blt lm 4611686018427387904=true:=blt_t (by omega)
 have e2:Nat.blt es.length 1000000=true:=blt_t (by omega)
 have e3:es.all VP=true:=ZP.2 ht
 have ha:pdqAnsM [.one (.own i v 0 es.length),.one (.p (.int .i64 (.ofNat 0))),.one (.p (.int .i64 (.ofNat es.length))),.one (.p (.int .i64 (.ofNat lm))),.one (.p (.fn 95 []))] H=some (.tup [],H.set i (moS v (SU es))):=by
  simp only[pdqAnsM,YH,e1,hi,unP_pc,e2,e3,Bool.and_self,Bool.not_false,cond_true]
  rfl
 have h2:=Va.base (B:=B) (hB.pdqM _ _ _ ha)
 have f1:es.length%18446744073709551616=es.length:=Zd (by omega)
 refine Va.of (hB.tab _ _ rfl) ((h1.evt.and (h2.evt.and hB.toStd.evt)).mono fun E K ⟨e1,e2,hmd⟩=> ?_)
 simp only[EVS,EVH,EVN,reduceIte,Nat.reduceEqDiff,Nat.reduceLeDiff,Nat.reduceAdd,x107,hmd,MDS,e1,e2,f1]
theorem sortMoN_ret {B:Base}(hB:StdM B){H:List Blk}:Va B 107 [.one (.p .nilS),.one (.p (.fn 95 []))] H (.tup []) H:=by
 obtain⟨lm,hlm,h1⟩:=T6 hB.toStd (n:=0) (by omega)
 have h2:=Va.base (B:=B) (hB.pdqM [.one (.p .nilS),.one (.p (.int .i64 (.ofNat 0))),.one (.p (.int .i64 (.ofNat 0))),.one (.p (.int .i64 (.ofNat lm))),.one (.p (.fn 95 []))] H (.tup [],H) rfl)
 refine Va.of (hB.tab _ _ rfl) ((h1.evt.and (h2.evt.and hB.toStd.evt)).mono fun E K ⟨e1,e2,hmd⟩=> ?_)
 simp only[EVS,EVH,EVN,reduceIte,Nat.reduceEqDiff,Nat.reduceLeDiff,Nat.reduceAdd,x107,hmd,MDS,e1,e2]
theorem cloneMo_ret {B:Base}(hB:Std B){es:List (List PL)}(hes:∀c∈es,c.length=8)(hl:es.length<1000000):
  Va B 106 [.one (.p (.lst es))] [] (.one (.own 0 1 0 es.length)) [moS 1 es]:=by
 have hcp:=fun(h:HF)=>(Sl.lst (es:=es)).chunks (h:=h)
 have f1:es.length*64<=lim:=by unfold lim;omega
 have f2:es.length<=9223372036854775807:=by omega
 have hn:WX false [.one (.p (.lst es)),.one (.p .nilS)]=some ⟨.one (.p (.bool false)),[],[],[]⟩:=rfl
 have f5:(es.map (·.map DL.p)).all (fun c=>decide (c.length=8))=true:=by
  rw[ZP]
  intro c hc
  simp only[ZM]at hc
  obtain⟨d,hd,rfl⟩:=hc
  simp[hes d hd]
 have f6:(es.map (·.map DL.p)).length=es.length:=by simp
 refine Va.of (hB.tab _ _ rfl) (hB.evt.mono fun E K hmd=> ?_)
 simp only[EVS,EVH,EVN,reduceIte,Nat.reduceEqDiff,Nat.reduceLeDiff,Nat.reduceAdd,x106,hcp,f1,f2,hn,f5,f6]
 rfl
theorem cloneMoN_ret {B:Base}(hB:Std B)(H:List Blk):Va B 106 [.one (.p .nilS)] H (.one (.p .nilS)) H:=by
 have hn:WX false [.one (.p .nilS),.one (.p .nilS)]=some ⟨.one (.p (.bool true)),[],[],[]⟩:=rfl
 refine Va.of (hB.tab _ _ rfl) (hB.evt.mono fun E K hmd=> ?_)
 simp only[EVS,EVH,EVN,reduceIte,Nat.reduceEqDiff,Nat.reduceLeDiff,x106,hn]
abbrev SlM (l:PL)(ms:List (List Nat)):Prop:=Sl l (ms.map mo)
theorem in_go {E:Oracle}{K:Nat}(hmd:E.mode=md){lr:PL}{m:List Nat}(hm:m.length=8){all:List (List Nat)}(sl:SlM lr all)(hl:all.length<1000000)(h8:∀d∈all,d.length=8)(hd:∀d∈all,E.pure 139 [.agg (mo d),.agg (mo m)]=some (.one (.bool (XU d m)))):∀(rest:List (List Nat)) (i k:Nat) (G:List Blk),all.drop i=rest->i+rest.length=all.length->rest.length<k->
  ∃T' H',Xa E K 0 [2,7,8,9] x109_1 k ⟨[(2,.one (.ptr 0 0 0 0)),(7,.one (.p lr)),(8,.one (.p (.int .i64 (.ofNat all.length)))),(9,.one (.p (.int .i64 (.ofNat i))))],⟨false,0,8,[moD m],false,51⟩::G⟩=some (if rest.any (fun d=>XU d m)=true then .ret else .exit 0,⟨T',H'⟩)/\(rest.any (fun d=>XU d m)=true->Xf T' 4=some (.one (.p (.bool true))))
 |[],i,k,G,_,hi,hk=>by
  obtain⟨k,rfl⟩:∃k',k=k'+1:=⟨k-1,by omega⟩
  have hlt:¬i<all.length:=by simp at hi;omega
  apply exq3
  ·rw[Xa]
   simp only[EVS,EVN,reduceIte,Nat.reduceEqDiff,x109_1,hlt,List.any_nil]
   rfl
  ·intro h;cases h
 |d::rest,i,k,G,hdr,hi,hk=>by
  obtain⟨k,rfl⟩:∃k',k=k'+1:=⟨k-1,by omega⟩
  simp only[Zi]at hi hk
  have hlt:i<all.length:=by omega
  obtain⟨gp,dp⟩:=Xq hdr
  have hmem:=Zu gp
  have d8:=h8 d hmem
  have e1:=hd d hmem
  have ip:=fun(hh:HF) (kd:IntKind)=>sl.idx (h:=hh) (k:=kd) (sz:=8) (c:=mo d) (i:=i) (by rw[Zv,gp];rfl) (by rw[Xt,d8])
  have f1:Xd .i64 (.ofNat (i+1))=.ofNat (i+1):=wrap_i64 (by omega)
  have tm:(moD m).take 8=moD m:=Ze (by rw[Xb];omega)
  have td:(moD d).take 8=moD d:=Ze (by rw[Xb];omega)
  have dd:(moD d).drop 8=[]:=Zp (by rw[Xb];omega)
  have w:=Xx d
  by_cases hdv:XU d m=true
  ·rw[hdv]at e1
   have hany:(d::rest).any (fun d=>XU d m)=true:=by rw[List.any_cons,hdv];rfl
   rw[hany]
   apply exq3
   ·rw[Xa]
    simp(decide:=true)only[EVS,EVN,EVH,reduceIte,Nat.reduceAdd,x109_1,hmd,MDS,hlt,ip,e1,hm,d8,tm,td,w,XT,Xb,XN,XP,XK,XS,Zm,Zr]
    rfl
   ·intro _
    simp only[EVS,reduceIte,Nat.reduceEqDiff]
  ·have hf:XU d m=false:=by simpa using hdv
   rw[hf]at e1
   have hany:(d::rest).any (fun d=>XU d m)=rest.any fun d=>XU d m:=by rw[List.any_cons,hf];rfl
   rw[hany]
   obtain⟨T',H',g1,g2⟩:=in_go hmd hm sl hl h8 hd rest (i+1) k (G++[⟨false,0,8,[moD d],false,51⟩]) dp (by omega) (by omega)
   refine⟨T',H',?_,g2⟩
   rw[Xa]
   simp(decide:=true)only[EVS,EVN,EVH,reduceIte,Nat.reduceAdd,x109_1,hmd,MDS,hlt,ip,f1,e1,hm,d8,tm,td,w,XT,Xb,XN,XP,XK,XS,Zm,Zr]
   exact g1
theorem in_ret {B:Base}(hB:Std B){lr:PL}{m:List Nat}(hm:m.length=8){ms:List (List Nat)}(sl:SlM lr ms)(hl:ms.length<1000000)(h8:∀d∈ms,d.length=8):Ret B 109 [.agg (mo m),.one lr] (.one (.bool (ms.any fun d=>XU d m))):=by
 have hd:Evt B fun E _=>∀d∈ms,E.pure 139 [.agg (mo d),.agg (mo m)]=some (.one (.bool (XU d m))):=TZ (p:=fun d E _=>E.pure 139 [.agg (mo d),.agg (mo m)]=some (.one (.bool (XU d m)))) fun d hd=>(S2 hB (h8 d hd) hm).evt
 refine Ret.of (hB.tab _ _ rfl) ((hd.and (hB.evt.and (Evt.ge (ms.length+1)))).mono fun E K ⟨e1,hmd,hK⟩=> ?_)
 obtain⟨T',H',g1,g2⟩:=in_go (K:=K) hmd hm sl hl h8 e1 ms 0 K [] rfl (by omega) (by omega)
 have hlen:=sl.len
 rw[ZU]at hlen
 cases ha:ms.any fun d=>XU d m with
 |true=>
  rw[ha]at g1 g2
  have g2:=g2 rfl
  simp(decide:=true)only[EVS,EVN,reduceIte,x109,hlen,XT,Xb,hm,g1,g2]
 |false=>
  rw[ha]at g1
  simp only[Zs,if_false]at g1
  simp(decide:=true)only[EVS,EVN,reduceIte,x109,hlen,XT,Xb,hm,g1]
theorem min1_ret {B:Base}(hB:Std B){lr:PL}{m:List Nat}(hm:m.length=8){ms:List (List Nat)}(sl:SlM lr ms)(hl:ms.length<1000000)(h8:∀d∈ms,d.length=8):Ret B 108 [.agg (mo m),.one (.ref [lr])] (.one (.bool (ms.any fun d=>XU d m))):=by
 have h1:=in_ret hB hm sl hl h8
 have tm:(moD m).take 8=moD m:=Ze (by rw[Xb];omega)
 refine Ret.of (hB.tab _ _ rfl) ((h1.evt.and hB.evt).mono fun E K ⟨e1,hmd⟩=> ?_)
 simp(decide:=true)only[EVS,EVN,EVH,reduceIte,x108,hmd,MDS,e1,XT,Xb,hm,tm,XN,XP]
theorem rev_round {E:Oracle}{K k id v i j:Nat}{es:List (List PL)}{x y:List PL}{H:List Blk}(hi:H[id]? =some (moS v es))(h1:es[i]? =some x)(h2:es[j]? =some y)(hx:x.length=8)(hy:y.length=8)(hij:i<j)(hl:es.length<1000000):
  Xa E K 0 [0,2,3] x110_1 (k+1) ⟨[(0,.one (.own id v 0 es.length)),(2,.one (.p (.int .i64 (.ofNat i)))),(3,.one (.p (.int .i64 (.ofNat j))))],H⟩=
   Xa E K 0 [0,2,3] x110_1 k ⟨[(0,.one (.own id v 0 es.length)),(2,.one (.p (.int .i64 (.ofNat (i+1))))),(3,.one (.p (.int .i64 (.ofNat (j-1)))))],H.set id (moS v ((es.set i y).set j x))⟩:=by
 have hil:i<es.length:=(Zb.mp h1).1
 have hjl:j<es.length:=(Zb.mp h2).1
 have hidl:id<H.length:=(Zb.mp hi).1
 have p1:(pc es)[i]? =some (x.map DL.p):=by simp[pc,h1]
 have p2:(pc es)[j]? =some (y.map DL.p):=by simp[pc,h2]
 have q1:(x.map DL.p).length=8:=by simp[hx]
 have q2:(y.map DL.p).length=8:=by simp[hy]
 have tx:(x.map DL.p).take 8=x.map DL.p:=Ze (by omega)
 have ty:(y.map DL.p).take 8=y.map DL.p:=Ze (by omega)
 have dx:(x.map DL.p).drop 8=[]:=Zp (by omega)
 have dy:(y.map DL.p).drop 8=[]:=Zp (by omega)
 have wx:=allPure_map x
 have wy:=allPure_map y
 have f1:Xd .i64 (.ofNat (i+1))=.ofNat (i+1):=wrap_i64 (by omega)
 have f2:Xd .i64 (Int.ofNat j-Int.ofNat 1)=.ofNat (j-1):=XI (by omega) (by omega)
 have s1:(pc es).set i (y.map DL.p)=pc (es.set i y):=by simp[pc,List.map_set]
 have s2:(pc (es.set i y)).set j (x.map DL.p)=pc ((es.set i y).set j x):=by simp[pc,List.map_set]
 have p3:(pc (es.set i y))[j]? =some (y.map DL.p):=by
  have :(es.set i y)[j]? =some y:=by rw[Zz (by omega)];exact h2
  simp only[pc,Zv,this,ZS]
 have hss:∀a b,(H.set id a).set id b=H.set id b:=fun a b=>List.set_set ..
 have hgs:∀a,(H.set id a)[id]? =some a:=fun a=>Yf hidl
 have hle:(pc es).length=es.length:=XR es
 have c3:(H.length<=id)=False:=by simp;omega
 have hle2:(pc (es.set i y)).length=es.length:=by rw[XR,Z4]
 simp only[moS]at hi
 rw[Xa]
 simp(decide:=true)only[EVS,EVN,EVF,reduceIte,Nat.reduceEqDiff,Nat.reduceAdd,x110_1,hij,hi,hil,hjl,p1,p2,p3,q1,q2,tx,ty,dx,dy,wx,wy,f1,f2,s1,s2,hss,hgs,c3,Z4,Zr]
def RevI (orig cur:List (List PL))(i:Nat):Prop:=cur.length=orig.length/\∀p,p<orig.length->cur[p]? =if p<i\/orig.length-i<=p then orig[orig.length-1-p]? else orig[p]?
theorem rev_go {E:Oracle}{K id v:Nat}{orig:List (List PL)}(h8:∀c∈orig,c.length=8)(hl:orig.length<1000000):∀(d i k:Nat) (cur:List (List PL)) (H:List Blk),RevI orig cur i->2*i<=orig.length->orig.length-2*i<=d->d<k->0<orig.length->i<=orig.length-1->H[id]? =some (moS v cur)->
  ∃T',Xa E K 0 [0,2,3] x110_1 k ⟨[(0,.one (.own id v 0 orig.length)),(2,.one (.p (.int .i64 (.ofNat i)))),(3,.one (.p (.int .i64 (.ofNat (orig.length-1-i)))))],H⟩=some (.exit 0,⟨T',H.set id (moS v orig.reverse)⟩)
 |d,i,0,cur,H,_,_,_,h,_,_,_=>by omega
 |d,i,k+1,cur,H,hI,hi2,hd,hk,hpos,hil,hH=>by
  obtain⟨hI1,hI2⟩:=hI
  by_cases hlt:i<orig.length-1-i
  ·obtain⟨x,hx⟩:∃x,cur[i]? =some x:=⟨_,Zf (by omega)⟩
   obtain⟨y,hy⟩:∃y,cur[orig.length-1-i]? =some y:=⟨_,Zf (by omega)⟩
   have ex:orig[i]? =some x:=by rw[<-hx,hI2 i (by omega),if_neg (by omega)]
   have ey:orig[orig.length-1-i]? =some y:=by rw[<-hy,hI2 _ (by omega),if_neg (by omega)]
   have r:=rev_round (E:=E) (K:=K) (k:=k) hH hx hy (h8 x (Zu ex)) (h8 y (Zu ey)) hlt (by omega)
   rw[hI1]at r
   have hidl:id<H.length:=(Zb.mp hH).1
   have hN:RevI orig ((cur.set i y).set (orig.length-1-i) x) (i+1):=by
    refine⟨by simp[hI1],fun p hp=> ?_⟩
    rw[List.getElem?_set,List.getElem?_set]
    by_cases h1:orig.length-1-i=p
    ·rw[if_pos h1,if_pos (by simp[hI1];omega),if_pos (by omega),<-ex]
     congr 1;omega
    ·rw[if_neg h1]
     by_cases h2:i=p
     ·rw[if_pos h2,if_pos (by omega),if_pos (by omega),<-ey]
      congr 1;omega
     ·rw[if_neg h2,hI2 p hp]
      by_cases h3:p<i\/orig.length-i<=p
      ·rw[if_pos h3,if_pos (by omega)]
      ·rw[if_neg h3,if_neg (by omega)]
   obtain⟨T',g⟩:=rev_go (E:=E) (K:=K) (id:=id) (v:=v) h8 hl (d-1) (i+1) k _ (H.set id (moS v ((cur.set i y).set (orig.length-1-i) x))) hN (by omega) (by omega) (by omega) hpos (by omega) (Yf hidl)
   refine⟨T',?_⟩
   rw[r,show orig.length-1-i-1=orig.length-1-(i+1)by omega,g,List.set_set]
  ·have hc:cur=orig.reverse:=by
    apply List.ext_getElem?
    intro p
    by_cases hp:p<orig.length
    ·rw[hI2 p hp,List.getElem?_reverse hp]
     by_cases h3:p<i\/orig.length-i<=p
     ·rw[if_pos h3]
     ·rw[if_neg h3]
      congr 1;omega
    ·rw[Ys (by omega),Ys (by simp;omega)]
   have hset:H.set id (moS v orig.reverse)=H:=by
    rw[<-hc]
    obtain⟨h1,h2⟩:=Zb.1 hH
    apply List.ext_getElem (by simp)
    intro q h3 h4
    rw[List.getElem_set]
    split
    ·rename_i e;subst e;exact h2.symm
    ·rfl
   rw[hset]
   apply Exists.intro
   rw[Xa]
   simp only[EVS,EVN,reduceIte,Nat.reduceEqDiff,x110_1,hlt]
   rfl
theorem revN_ret {B:Base}(hB:Std B)(H:List Blk):Va B 110 [.one (.p .nilS)] H (.tup []) H:=by
 refine Va.of (hB.tab _ _ rfl) ((hB.evt.and (Evt.ge 1)).mono fun E K ⟨hmd,hK⟩=> ?_)
 obtain⟨k,hk⟩:∃k,K=k+1:=⟨K-1,by omega⟩
 have hn:TQ [.one (.p .nilS)]=some ⟨.one (.p (.int .i64 (.ofNat 0))),[],[],[]⟩:=rfl
 have f2:Xd .i64 (Int.ofNat 0-Int.ofNat 1)=.negSucc 0:=rfl
 simp(decide:=true)only[EVS,EVN,EVH,reduceIte,x110,x110_1,hn,f2]
 rw[hk]
 simp(decide:=true)only[Xa,EVS,EVN,reduceIte]
abbrev rvB (d:DL):Blk:=⟨false,0,1,[[d]],false,48⟩
abbrev mnS (n i:Nat):List (Nat×DV):=[(4,.one (.ptr 1 0 0 0)),(5,.one (.fn 108 [.ptr 1 0 0 0])),(13,.one (.own 0 1 0 n)),(14,.one (.p (.int .i64 (.ofNat n)))),(15,.one (.p (.int .i64 (.ofNat i))))]
theorem min_skip {E:Oracle}{K k i:Nat}(hmd:E.mode=md){ss:List (List PL)}{m:List Nat}{x:SlX}{H:List Blk}(h0:H[0]? =some (moS 1 ss))(h1:H[1]? =some (rvB (slX x)))(hi:ss[i]? =some (mo m))(hm:m.length=8)(hl:ss.length<1000000)
  (hfz:∀X,Xn 6 (Xi (H++X)) (.ptr 1 0 0 0)=some (.ref [plX x])) (hc:E.pure 108 [.agg (mo m),.one (.ref [plX x])]=some (.one (.bool true))):
  ∃J,Xa E K 0 [4,5,13,14,15] x69_1 (k+1) ⟨mnS ss.length i,H⟩=Xa E K 0 [4,5,13,14,15] x69_1 k ⟨mnS ss.length (i+1),H++J⟩:=by
 have hil:i<ss.length:=(Zb.mp hi).1
 have pi:(pc ss)[i]? =some (moD m):=by simp[pc,hi,XT]
 have f1:Xd .i64 (.ofNat (i+1))=.ofNat (i+1):=wrap_i64 (by omega)
 have tm:(moD m).take 8=moD m:=Ze (by rw[Xb];omega)
 have dm:(moD m).drop 8=[]:=Zp (by rw[Xb];omega)
 have w:=Xx m
 have g0:=Xy h0
 have g1:=Xy h1
 have hle:(pc ss).length=ss.length:=XR ss
 simp only[moS]at g0 h0
 simp only[rvB]at g1 h1
 have hh:Xr E .callV [.one (.fn 108 [.ptr 1 0 0 0]),.agg (moD m)]=false:=by
  show Wy E 108=false
  simp only[Wy,hmd,MDS]
 have hcv:∀X,V6 E (Xi (H++X)) [.one (.fn 108 [.ptr 1 0 0 0]),.agg (moD m)]=some ⟨.one (.p (.bool true)),[],[],[DV.agg (moD m),.one (.ptr 1 0 0 0)].flatMap (UC (Xi (H++X)))⟩:=fun X=>by
  show Wc E (Xi (H++X)) 108 [.agg (moD m),.one (.ptr 1 0 0 0)]=_
  have e1:E.mode 108=.pure:=by rw[hmd];rfl
  have e2:Xl (Xw (Xi (H++X))) [DV.agg (moD m),.one (.ptr 1 0 0 0)]=some [.agg (mo m),.one (.ref [plX x])]:=by
   have:=XN 6 (Xi (H++X)) m
   simp only[Xl,Xw,XM,this,hfz]
  have e3:∀l:List Nat,(l.isEmpty||PV.scalar (.one (.bool true)))=true:=fun l=>by rw[Bool.or_eq_true];exact .inr rfl
  simp only[Wc,e1,e2,hc,e3,cond_true,inj]
 apply Exists.intro
 rw[Xa]
 simp(decide:=true)only[EVS,EVN,reduceIte,Nat.reduceAdd,x69_1,hil,pi,f1,tm,w,hm,h0,hh,hcv,Xb,XP,XK,XS,Zm,Zr]
 rfl
theorem min_newN {E:Oracle}{K k i:Nat}(hmd:E.mode=md){ss:List (List PL)}{m:List Nat}{x:SlX}{H:List Blk}(h0:H[0]? =some (moS 1 ss))(h1:H[1]? =some (rvB (slX x)))(hi:ss[i]? =some (mo m))(hm:m.length=8)(hl:ss.length<1000000)
  (hfz:∀X,Xn 6 (Xi (H++X)) (.ptr 1 0 0 0)=some (.ref [plX x])) (hc:E.pure 108 [.agg (mo m),.one (.ref [plX x])]=some (.one (.bool false))) (hx:x=none):
  ∃J,Xa E K 0 [4,5,13,14,15] x69_1 (k+1) ⟨mnS ss.length i,H⟩=Xa E K 0 [4,5,13,14,15] x69_1 k ⟨mnS ss.length (i+1),H.set 1 (rvB (.own (H.length+2) 0 0 1))++J⟩/\J[2]? =some (moS 0 [mo m]):=by
 subst hx
 have hil:i<ss.length:=(Zb.mp hi).1
 have pi:(pc ss)[i]? =some (moD m):=by simp[pc,hi,XT]
 have f1:Xd .i64 (.ofNat (i+1))=.ofNat (i+1):=wrap_i64 (by omega)
 have tm:(moD m).take 8=moD m:=Ze (by rw[Xb];omega)
 have dm:(moD m).drop 8=[]:=Zp (by rw[Xb];omega)
 have w:=Xx m
 have g0:=Xy h0
 have g1:=Xy h1
 have hle:(pc ss).length=ss.length:=XR ss
 simp only[moS]at g0 h0
 simp only[rvB]at g1 h1
 have hh:Xr E .callV [.one (.fn 108 [.ptr 1 0 0 0]),.agg (moD m)]=false:=by
  show Wy E 108=false
  simp only[Wy,hmd,MDS]
 have hcv:∀X,V6 E (Xi (H++X)) [.one (.fn 108 [.ptr 1 0 0 0]),.agg (moD m)]=some ⟨.one (.p (.bool false)),[],[],[DV.agg (moD m),.one (.ptr 1 0 0 0)].flatMap (UC (Xi (H++X)))⟩:=fun X=>by
  show Wc E (Xi (H++X)) 108 [.agg (moD m),.one (.ptr 1 0 0 0)]=_
  have e1:E.mode 108=.pure:=by rw[hmd];rfl
  have e2:Xl (Xw (Xi (H++X))) [DV.agg (moD m),.one (.ptr 1 0 0 0)]=some [.agg (mo m),.one (.ref [(plX none)])]:=by
   have:=XN 6 (Xi (H++X)) m
   simp only[Xl,Xw,XM,this,hfz]
  have e3:∀l:List Nat,(l.isEmpty||PV.scalar (.one (.bool false)))=true:=fun l=>by rw[Bool.or_eq_true];exact .inr rfl
  simp only[Wc,e1,e2,hc,e3,cond_true,inj]
 simp only[slX]at g1 h1
 have st:=fun X b=>TC (H:=H) (Zb.1 h1).1 X b
 have han:∀(n:Nat) (c:List DL) (ids:List Nat),X8 51 8 64 n [c] ids=some ⟨.one (.own n 0 0 1),[⟨false,0,8,[c],false,51⟩],[],ids⟩:=fun _ _ _=>rfl
 apply Exists.intro
 refine⟨?_,?_⟩
 ·rw[Xa]
  simp(decide:=true)only[EVS,EVN,reduceIte,Nat.reduceAdd,x69_1,hil,pi,f1,tm,w,hm,g1,h0,hh,hcv,Xb,XP,Vn,XK,XS,Zq,Zm,Zr,st,han]
  rfl
 ·simp only[Yy,YL,moS,pc,XT,Zx,ZZ]
theorem min_newO {E:Oracle}{K k i:Nat}(hmd:E.mode=md){ss:List (List PL)}{m:List Nat}{x:SlX}{H:List Blk}(h0:H[0]? =some (moS 1 ss))(h1:H[1]? =some (rvB (slX x)))(hi:ss[i]? =some (mo m))(hm:m.length=8)(hl:ss.length<1000000)
  (hfz:∀X,Xn 6 (Xi (H++X)) (.ptr 1 0 0 0)=some (.ref [plX x])) (hc:E.pure 108 [.agg (mo m),.one (.ref [plX x])]=some (.one (.bool false))) {id v:Nat} {rs:List (List PL)} (hx:x=some (id,v,rs)) (hid:H[id]? =some (moS v rs)) (id2:2<=id) (hrs:rs.length<1000000):
  ∃J,Xa E K 0 [4,5,13,14,15] x69_1 (k+1) ⟨mnS ss.length i,H⟩=Xa E K 0 [4,5,13,14,15] x69_1 k ⟨mnS ss.length (i+1),(H.set id (moS (v+1) (rs++[mo m]))).set 1 (rvB (.own id (v+1) 0 (rs++[mo m]).length))++J⟩:=by
 subst hx
 have hil:i<ss.length:=(Zb.mp hi).1
 have pi:(pc ss)[i]? =some (moD m):=by simp[pc,hi,XT]
 have f1:Xd .i64 (.ofNat (i+1))=.ofNat (i+1):=wrap_i64 (by omega)
 have tm:(moD m).take 8=moD m:=Ze (by rw[Xb];omega)
 have dm:(moD m).drop 8=[]:=Zp (by rw[Xb];omega)
 have w:=Xx m
 have g0:=Xy h0
 have g1:=Xy h1
 have hle:(pc ss).length=ss.length:=XR ss
 simp only[moS]at g0 h0
 simp only[rvB]at g1 h1
 have hh:Xr E .callV [.one (.fn 108 [.ptr 1 0 0 0]),.agg (moD m)]=false:=by
  show Wy E 108=false
  simp only[Wy,hmd,MDS]
 have hcv:∀X,V6 E (Xi (H++X)) [.one (.fn 108 [.ptr 1 0 0 0]),.agg (moD m)]=some ⟨.one (.p (.bool false)),[],[],[DV.agg (moD m),.one (.ptr 1 0 0 0)].flatMap (UC (Xi (H++X)))⟩:=fun X=>by
  show Wc E (Xi (H++X)) 108 [.agg (moD m),.one (.ptr 1 0 0 0)]=_
  have e1:E.mode 108=.pure:=by rw[hmd];rfl
  have e2:Xl (Xw (Xi (H++X))) [DV.agg (moD m),.one (.ptr 1 0 0 0)]=some [.agg (mo m),.one (.ref [(plX (some (id,v,rs)))])]:=by
   have:=XN 6 (Xi (H++X)) m
   simp only[Xl,Xw,XM,this,hfz]
  have e3:∀l:List Nat,(l.isEmpty||PV.scalar (.one (.bool false)))=true:=fun l=>by rw[Bool.or_eq_true];exact .inr rfl
  simp only[Wc,e1,e2,hc,e3,cond_true,inj]
 simp only[slX]at g1 h1
 have hidl:id<H.length:=(Zb.1 hid).1
 have st:=fun X b=>TC (H:=H) hidl X b
 have st1:=fun X b b'=>TC (H:=H.set id b) (i:=1) (by rw[Z4];exact(Zb.1 h1).1) X b'
 have g1s:∀(X:List Blk) b,(H.set id b++X)[1]? =some ⟨false,0,1,[[.own id v 0 rs.length]],false,48⟩:=fun X b=>Xy (by rw[Zz (by omega)];exact h1) X
 have gid:=Xy hid
 have f2:(rs.length+1)*64<=lim:=by unfold lim;omega
 have f3:rs.length+1<=9223372036854775807:=by omega
 have c1:(id=1)=False:=by simp;omega
 have c0':(id=0)=False:=by simp;omega
 have c2:∀x,(H.length+x<=id)=False:=fun x=>by simp;omega
 have c3:(H.length<=id)=False:=by simp;omega
 have c4:∀x,(id=H.length+x)=False:=fun x=>by simp;omega
 have c5:∀x,(H.length+x=id)=False:=fun x=>by simp;omega
 have c6:(1=id)=False:=by simp;omega
 have psn:pc rs++[moD m]=pc (rs++[mo m]):=by simp[pc,XT]
 simp only[moS]at gid hid
 apply Exists.intro
 rw[Xa]
 simp(decide:=true)only[EVS,EVN,reduceIte,Nat.reduceAdd,x69_1,hil,pi,f1,tm,w,hm,g1,h0,hh,hcv,Xb,XP,Vn,XK,XS,Zq,Zm,Zr,st,st1,g1s,gid,f2,f3,XR,psn,Z4]
 rfl
def Tl:List (List Nat)->List (List Nat)->List (List Nat)
 |[],acc=>acc
 |m::l,acc=>if(acc.any fun d=>XU d m)=true then Tl l acc else Tl l (acc++[m])
def plM:List (List Nat)->PL
 |[]=>.nilS
 |m::l=>.lst ((m::l).map mo)
theorem plM_sl (l:List (List Nat)):SlM (plM l) l:=by
 cases l with
 |nil=>exact .nil
 |cons m l=>exact .lst
inductive MinR (E:Oracle):List (List Nat)->List (List Nat)->List (List Nat)->Prop
 |nil (acc:List (List Nat)):MinR E [] acc acc
 |skip {m:List Nat} {l acc r:List (List Nat)} (h:E.pure 108 [.agg (mo m),.one (.ref [plM acc])]=some (.one (.bool true))) (k:MinR E l acc r):MinR E (m::l) acc r
 |new {m:List Nat} {l acc r:List (List Nat)} (h:E.pure 108 [.agg (mo m),.one (.ref [plM acc])]=some (.one (.bool false))) (k:MinR E l (acc++[m]) r):MinR E (m::l) acc r
theorem minR_evt {B:Base}(hB:Std B):∀(l acc:List (List Nat)),(∀m∈l,m.length=8)->(∀m∈acc,m.length=8)->l.length+acc.length<1000000->Evt B fun E _=>MinR E l acc (Tl l acc)
 |[],acc,_,_,_=>Evt.of fun _ _=>.nil acc
 |m::l,acc,hl,ha,hn=>by
  have hm:=hl m (Zh ..)
  have hl':∀m∈l,m.length=8:=fun x hx=>hl x (Zc _ hx)
  simp only[Zi]at hn
  have h1:=min1_ret hB hm (plM_sl acc) (by omega) ha
  unfold Tl
  by_cases h:(acc.any fun d=>XU d m)=true
  ·rw[if_pos h]
   rw[h]at h1
   exact(h1.evt.and (minR_evt hB l acc hl' ha (by omega))).mono fun E K ⟨e1,e2⟩=>.skip e1 e2
  ·rw[if_neg h]
   rw[Bool.not_eq_true]at h
   rw[h]at h1
   refine(h1.evt.and (minR_evt hB l (acc++[m]) hl' (fun x hx=> ?_) (by simp;omega))).mono fun E K ⟨e1,e2⟩=>.new e1 e2
   rcases Z3.1 hx with hx|hx
   ·exact ha x hx
   ·rw[Yo.1 hx];exact hm
structure MSt (ss:List (List PL))(H:List Blk)(x:SlX)(acc:List (List Nat)):Prop where
 b0:H[0]? =some (moS 1 ss)
 b1:H[1]? =some (rvB (slX x))
 px:plX x=plM acc
 own:∀id v es,x=some (id,v,es)->H[id]? =some (moS v es)/\2<=id/\es=acc.map mo
theorem frz_slM {H:List Blk}{x:SlX}(h:∀id v es,x=some (id,v,es)->H[id]? =some (moS v es))(n:Nat):Xn (n+1) (Xi H) (slX x)=some (plX x):=by
 cases x with
 |none=>rfl
 |some q=>
  obtain⟨id,v,es⟩:=q
  have h1:=h id v es rfl
  have ht:=V5 es (Zg _)
  have hf:=Uv n (Xi H) es
  have e:Xi H id=some (moS v es):=h1
  have hb:(Nat.beq v v&& !false&&Nat.ble (0+es.length) (pc es).length)=true:=by simp[XR]
  simp only[slX,Xn,e,hb,cond_true,Yh,ht,hf,plX]
theorem MSt.frz {ss:List (List PL)}{H:List Blk}{x:SlX}{acc:List (List Nat)}(h:MSt ss H x acc)(X:List Blk):Xn 6 (Xi (H++X)) (.ptr 1 0 0 0)=some (.ref [plX x]):=by
 have e:Xi (H++X) 1=some (rvB (slX x)):=Xy h.b1 X
 have f:=frz_slM (H:=H++X) (x:=x) (fun id v es e=>Xy (h.own id v es e).1 X) 4
 simp only[Xn,e,rvB,YH,Bool.not_false,Bool.and_self,cond_true,YL,Yh,Xl,f]
theorem min_go {E:Oracle}{K:Nat}(hmd:E.mode=md){ss:List (List PL)}(hl:ss.length<1000000):∀{rest acc r:List (List Nat)},MinR E rest acc r->∀(i k:Nat) (x:SlX) (H:List Blk),ss.drop i=rest.map mo->(∀m∈rest,m.length=8)->MSt ss H x acc->i+rest.length=ss.length->rest.length<k->acc.length+rest.length<1000000->
  ∃T' H' x',Xa E K 0 [4,5,13,14,15] x69_1 k ⟨mnS ss.length i,H⟩=some (.exit 0,⟨T',H'⟩)/\Xf T' 4=some (.one (.ptr 1 0 0 0))/\MSt ss H' x' r:=by
 intro rest acc r h
 induction h with
 |nil acc=>
  intro i k x H _ _ st hi hk _
  obtain⟨k,rfl⟩:∃k',k=k'+1:=⟨k-1,by omega⟩
  simp only[Zw,Yu]at hi
  subst hi
  have :∃T',Xa E K 0 [4,5,13,14,15] x69_1 (k+1) ⟨mnS ss.length ss.length,H⟩=some (.exit 0,⟨T',H⟩)/\Xf T' 4=some (.one (.ptr 1 0 0 0)):=by
   apply ex1
   ·rw[Xa]
    simp only[EVS,EVN,reduceIte,Nat.reduceEqDiff,x69_1,ZA]
    rfl
   ·simp only[EVS,reduceIte,Nat.reduceEqDiff]
  obtain⟨T',g1,g2⟩:=this
  exact⟨T',H,x,g1,g2,st⟩
 |@skip m l acc r h1 hr ih=>
  intro i k x H hd h8 st hi hk hn
  obtain⟨k,rfl⟩:∃k',k=k'+1:=⟨k-1,by omega⟩
  simp only[Zi]at hi hk hn
  obtain⟨gi,gd⟩:=Xq (show ss.drop i=mo m::l.map mo by simpa using hd)
  rw[<-st.px]at h1
  obtain⟨J,e⟩:=min_skip (K:=K) (k:=k) hmd st.b0 st.b1 gi (h8 m (Zh ..)) hl st.frz h1
  have st':MSt ss (H++J) x acc:=⟨Xy st.b0 J,Xy st.b1 J,st.px,fun id v es e=>⟨Xy (st.own id v es e).1 J,(st.own id v es e).2⟩⟩
  rw[e]
  exact ih (i+1) k x (H++J) gd (fun x hx=>h8 x (Zc _ hx)) st' (by omega) (by omega) (by omega)
 |@new m l acc r h1 hr ih=>
  intro i k x H hd h8 st hi hk hn
  obtain⟨k,rfl⟩:∃k',k=k'+1:=⟨k-1,by omega⟩
  simp only[Zi]at hi hk hn
  obtain⟨gi,gd⟩:=Xq (show ss.drop i=mo m::l.map mo by simpa using hd)
  rw[<-st.px]at h1
  have hm:=h8 m (Zh ..)
  have h1l:1<H.length:=(Zb.1 st.b1).1
  cases x with
  |none=>
   have ha:acc=[]:=by
    have:=st.px
    cases acc with
    |nil=>rfl
    |cons a l=>cases this
   subst ha
   obtain⟨J,e,hJ⟩:=min_newN (K:=K) (k:=k) hmd st.b0 st.b1 gi hm hl st.frz h1 rfl
   rw[e]
   refine ih (i+1) k (some (H.length+2,0,[mo m])) _ gd (fun x hx=>h8 x (Zc _ hx)) ⟨?_,?_,rfl,fun id v es e=> ?_⟩ (by omega) (by omega) (by simp;omega)
   ·exact Xy (by rw[Zz (by omega)];exact st.b0) J
   ·exact Xy (by rw[Yf h1l];rfl) J
   ·simp only[Za,Zl]at e
    obtain⟨rfl,rfl,rfl⟩:=e
    refine⟨?_,by omega,rfl⟩
    rw[ZB (by rw[Z4];omega),Z4,Yx]
    exact hJ
  |some q=>
   obtain⟨id,v,es⟩:=q
   obtain⟨o1,o2,rfl⟩:=st.own id v es rfl
   have hidl:id<H.length:=(Zb.1 o1).1
   obtain⟨J,e⟩:=min_newO (K:=K) (k:=k) hmd st.b0 st.b1 gi hm hl st.frz h1 rfl o1 o2 (by simp;omega)
   have ep:plX (some (id,v+1,acc.map mo++[mo m]))=plM (acc++[m]):=by
    have :plM (acc++[m])=.lst ((acc++[m]).map mo):=by cases acc<;>rfl
    rw[this]
    simp[plX]
   rw[e]
   refine ih (i+1) k (some (id,v+1,acc.map mo++[mo m])) _ gd (fun x hx=>h8 x (Zc _ hx)) ⟨?_,?_,ep,fun id' v' es' e=> ?_⟩ (by omega) (by omega) (by simp;omega)
   ·exact Xy (by rw[Zz (by omega),Zz (by omega)];exact st.b0) J
   ·exact Xy (by rw[Yf (by rw[Z4];omega)];rfl) J
   ·simp only[Za,Zl]at e
    obtain⟨rfl,rfl,rfl⟩:=e
    refine⟨Xy (by rw[Zz (by omega),Yf hidl]) J,o2,by simp⟩
theorem Evt.heapAll {B:Base}{f:Nat}{xf:XFunc}(hx:B.X f=some xf){p:List DV->List Blk->DV×List Blk->Prop}(h:Evt B fun E K=>∀a H r,p a H r->VD E K xf a H=some r):Evt B fun E _=>∀a H r,p a H r->E.heap f a H=some r:=by
 obtain⟨N,hN⟩:=h
 refine⟨N+1,fun K n hK hn=> ?_⟩
 obtain⟨n,rfl⟩:∃n',n=n'+1:=⟨n-1,by omega⟩
 intro a H r hp
 show(match B.X f with
  |some xf=>VD (B.E K n) K xf a H
  |none=>(B.E K n).heap f a H)=some r
 rw[hx];exact hN K n (by omega) (by omega) a H r hp
theorem rev_evt {B:Base}(hB:Std B){L:Nat}(hL:L<1000000):Evt B fun E _=>∀a H r,(∃id v es,a=[.one (.own id v 0 es.length)]/\H[id]? =some (moS v es)/\(∀c∈es,c.length=8)/\es.length<=L/\0<es.length/\r=(.tup [],H.set id (moS v es.reverse)))->
  E.heap 110 a H=some r:=by
 refine Evt.heapAll (hB.tab 110 _ rfl) ((hB.evt.and (Evt.ge (L+1))).mono fun E K ⟨hmd,hK⟩=> ?_)
 rintro a H r ⟨id,v,es,rfl,hH,h8,hl,hpos,rfl⟩
 obtain⟨T',g⟩:=rev_go (E:=E) (K:=K) (id:=id) (v:=v) h8 (by omega) es.length 0 K es H ⟨rfl,fun p hp=>by rw[if_neg (by omega)]⟩ (by omega) (by omega) (by omega) hpos (by omega) hH
 have f2:Xd .i64 (Int.ofNat es.length-Int.ofNat 1)=.ofNat (es.length-1):=XI (by omega) (by omega)
 rw[Nat.sub_zero]at g
 simp(decide:=true)only[EVS,EVN,EVH,reduceIte,x110,f2,g]
theorem minF_ne:∀(l:List (List Nat)) {acc:List (List Nat)},acc≠[]->Tl l acc≠[]
 |[],_,h=>h
 |m::l,acc,h=>by
  unfold Tl
  split
  ·exact minF_ne l h
  ·exact minF_ne l (by simp)
theorem minF_len:∀(l acc:List (List Nat)),(Tl l acc).length<=l.length+acc.length
 |[],acc=>by simp[Tl]
 |m::l,acc=>by
  unfold Tl
  split
  ·have:=minF_len l acc;simp only[Zi];omega
  ·have:=minF_len l (acc++[m]);simp only[Zm,Zi,Zw]at this⊢;omega
theorem minF_mem:∀(l acc:List (List Nat)),∀x∈Tl l acc,x∈l\/x∈acc
 |[],acc,x,h=>.inr h
 |m::l,acc,x,h=>by
  unfold Tl at h
  split at h
  ·exact(minF_mem l acc x h).imp (Zc _) id
  ·rcases minF_mem l (acc++[m]) x h with h|h
   ·exact .inl (Zc _ h)
   ·rcases Z3.1 h with h|h
    ·exact .inr h
    ·rw[Yo.1 h];exact .inl (Zh ..)
theorem minimal_ret {B:Base}(hB:StdM B){ms:List (List Nat)}(h8:∀m∈ms,XF m)(hl:ms.length<60000):Ret B 69 [.one (plM ms)] (.one (plM (Tl (WG ms) []).reverse)):=by
 have hS:=hB.toStd
 have hmk:∀i:Nat,Vj 108 [.one (.ptr i 0 0 0)]=some ⟨.one (.fn 108 [.ptr i 0 0 0]),[],[],[]⟩:=fun _=>rfl
 cases hms:ms with
 |nil=>
  have h1:=cloneMoN_ret hS []
  have h2:=sortMoN_ret hB (H:=[])
  have h3:=revN_ret hS [⟨false,0,1,[[.p .nilS]],false,48⟩]
  refine Ret.of (hS.tab _ _ rfl) ((h1.evt.and (h2.evt.and (h3.evt.and (hS.evt.and (Evt.ge 1))))).mono fun E K ⟨e1,e2,e3,hmd,hK⟩=> ?_)
  obtain⟨k,rfl⟩:∃k,K=k+1:=⟨K-1,by omega⟩
  have hn:TQ [.one (.p .nilS)]=some ⟨.one (.p (.int .i64 (.ofNat 0))),[],[],[]⟩:=rfl
  simp(decide:=true)only[EVS,EVN,EVH,reduceIte,x69,x69_1,Xa,plM,WG,Tl,List.reverse_nil,hmd,MDS,e1,e2,e3,hn,hmk]
 |cons m0 mt=>
  rw[<-hms]
  have hpos:0<ms.length:=by rw[hms];simp
  have hm8:∀m∈WG ms,m.length=8:=fun m hm=>(h8 m ((Wu ms).mem_iff.1 hm)).1
  have hsl:(WG ms).length=ms.length:=(Wu ms).length_eq
  have hes:∀c∈ms.map mo,c.length=8:=fun c hc=>by
   obtain⟨m,hm,rfl⟩:=ZM.1 hc
   rw[Xt];exact(h8 m hm).1
  have hMo:Monos (ms.map mo):=fun c hc=>by
   obtain⟨m,hm,rfl⟩:=ZM.1 hc
   exact(isMono_mo (h8 m hm)).1
  have hsc:SU (ms.map mo)=(WG ms).map mo:=by
   unfold SU
   rw[List.map_map]
   congr 1
   have :ms.map (monD∘mo)=ms.map id:=List.map_congr_left fun m hm=>(isMono_mo (h8 m hm)).2
   rw[this,List.map_id]
  have h1:=cloneMo_ret hS hes (by rw[ZU];omega)
  have h2:=sortMo_ret hB (H:=[moS 1 (ms.map mo)]) (i:=0) (v:=1) (es:=ms.map mo) rfl hMo (by rw[ZU];exact hl)
  rw[hsc]at h2
  have hpl:plM ms=.lst (ms.map mo):=by rw[hms];rfl
  obtain⟨a0,at_,hs0⟩:∃a l,WG ms=a::l:=by
   cases h:WG ms with
   |nil=>rw[h]at hsl;simp at hsl;omega
   |cons a l=>exact⟨a,l,rfl⟩
  have hne:Tl (WG ms) []≠[]:=by
   rw[hs0]
   unfold Tl
   rw[if_neg (by simp)]
   exact minF_ne _ (by simp)
  have hrl:(Tl (WG ms) []).length<=ms.length:=by have:=minF_len (WG ms) [];rw[hsl]at this;simpa using this
  have hr8:∀m∈Tl (WG ms) [],m.length=8:=fun m hm=>(minF_mem _ _ m hm).elim (hm8 m) (fun h=>by cases h)
  have hrv:∀(l:List (List Nat)),l≠[]->plM l=.lst (l.map mo):=fun l h=>by cases l with
   |nil=>exact absurd rfl h
   |cons a l=>rfl
  have hE:=(minR_evt hS (WG ms) [] hm8 (fun _ h=>by cases h) (by rw[hsl];simp;omega)).and ((rev_evt hS (L:=ms.length) (by omega)).and (h1.evt.and (h2.evt.and (hS.evt.and (Evt.ge (ms.length+1))))))
  generalize Tl (WG ms) []=r at hne hrl hr8 hE
  generalize hss:WG ms=ss at hE hsl hm8 h2 hsc
  refine Ret.of (hS.tab _ _ rfl) (hE.mono fun E K ⟨e0,e3,e1,e2,hmd,hK⟩=> ?_)
  rw[hpl,hrv r.reverse (by simpa using hne)]
  obtain⟨T',H',x',k1,k2,st⟩:=min_go (K:=K) hmd (ss:=ss.map mo) (by rw[ZU];omega) e0 0 K none [moS 1 (ss.map mo),rvB (.p .nilS)] (by simp) hm8 ⟨rfl,rfl,rfl,fun _ _ _ h=>by cases h⟩ (by simp) (by omega) (by simp;omega)
  cases x' with
  |none=>
   have:=st.px
   rw[hrv r hne]at this
   cases this
  |some q=>
   obtain⟨id,v,es⟩:=q
   obtain⟨o1,o2,rfl⟩:=st.own id v es rfl
   have hr0:0<r.length:=List.length_pos_iff.2 hne
   have hc8:∀c∈r.map mo,c.length=8:=fun c hc=>by
    obtain⟨m,hm,rfl⟩:=ZM.1 hc
    rw[Xt];exact hr8 m hm
   have e4:=e3 [.one (.own id v 0 (r.map mo).length)] H' _ ⟨id,v,r.map mo,rfl,o1,hc8,by rw[ZU];exact hrl,by rw[ZU];exact hr0,rfl⟩
   have b1:=st.b1
   simp only[slX,rvB]at b1
   have b2:(H'.set id (moS v (r.map mo).reverse))[1]? =some ⟨false,0,1,[[.own id v 0 (r.map mo).length]],false,48⟩:=by
    rw[Zz (by omega)];exact b1
   have b3:(H'.set id (moS v (r.map mo).reverse))[id]? =some (moS v (r.map mo).reverse):=Yf (Zb.1 o1).1
   have ht:(pc (r.map mo).reverse).take (r.map mo).length=pc (r.map mo).reverse:=Ze (by rw[XR,List.length_reverse];exact Zg _)
   have hf:=fun h=>Uv 5 h (r.map mo).reverse
   have hp:(r.reverse).map mo=(r.map mo).reverse:=by rw[List.map_reverse]
   rw[hp]
   simp only[mnS,moS,rvB,ZU,hsl]at k1 b3 b2 b1 e1 e2 e4 ht⊢
   have hrc0:(r.map mo).length=r.length:=ZU ..
   generalize r.map mo=rc at *
   simp(decide:=true)only[hrc0,EVS,EVN,EVH,reduceIte,Nat.reduceAdd,x69,hmd,MDS,hmk,e1,e2,k1,k2,b1,b2,b3,e4,ht,hf,XR,List.length_reverse,Zg]
theorem divL_refl:∀(m:List Nat),XU m m=true
 |[]=>rfl
 |a::m=>by simp[XU,divL_refl m]
theorem divL_trans:∀{a b c:List Nat},a.length=b.length->b.length=c.length->XU a b=true->XU b c=true->XU a c=true
 |[],_,_,_,_,_,_=>by simp[XU]
 |x::a,[],_,h,_,_,_=>by simp at h
 |x::a,y::b,[],_,h,_,_=>by simp at h
 |x::a,y::b,z::c,h1,h2,h3,h4=>by
  simp only[XU,Zo,decide_eq_true_eq]at h3 h4⊢
  exact⟨by omega,divL_trans (by simpa using h1) (by simpa using h2) h3.2 h4.2⟩
theorem divL_antisymm:∀{a b:List Nat},a.length=b.length->XU a b=true->XU b a=true->a=b
 |[],[],_,_,_=>rfl
 |[],_::_,h,_,_=>by simp at h
 |_::_,[],h,_,_=>by simp at h
 |x::a,y::b,h,h1,h2=>by
  simp only[XU,Zo,decide_eq_true_eq]at h1 h2
  rw[divL_antisymm (by simpa using h) h1.2 h2.2,show x=y by omega]
theorem divL_le:∀{d m:List Nat},XU d m=true->¬XW m d=.negSucc 0
 |[],m,_,h=>by cases m<;>cases h
 |_::_,[],_,h=>by cases h
 |x::d,y::m,h,k=>by
  simp only[XU,Zo,decide_eq_true_eq]at h
  unfold XW at k
  rw[if_neg (by omega)]at k
  split at k
  ·cases k
  ·exact divL_le h.2 k
abbrev IncM (l:List (List Nat)):Prop:=l.Pairwise fun x y=>XW y x=.ofNat 1
theorem min_spec:∀{l acc:List (List Nat)},(∀m∈l,m.length=8)->(∀m∈acc,m.length=8)->l.Pairwise (fun x y=>¬XW y x=.negSucc 0)->IncM acc->(∀a∈acc,∀m∈l,¬XW m a=.negSucc 0)->(∀a∈acc,∀b∈acc,XU a b=true->a=b)->
  IncM (Tl l acc)/\(∀a∈Tl l acc,∀b∈Tl l acc,XU a b=true->a=b)/\(∀m,m∈l\/m∈acc->∃d∈Tl l acc,XU d m=true)
 |[],acc,_,_,_,h1,_,h2=>⟨h1,h2,fun m hm=>hm.elim (fun h=>by cases h) fun h=>⟨m,h,divL_refl m⟩⟩
 |m::l,acc,hl,ha,hs,h1,hle,h2=>by
  obtain⟨p1,p2⟩:=Zt.1 hs
  have hm8:=hl m (Zh ..)
  have hl':∀x∈l,x.length=8:=fun x hx=>hl x (Zc _ hx)
  unfold Tl
  split
  ·rename_i h
   obtain⟨k1,k2,k3⟩:=min_spec hl' ha p2 h1 (fun a ha m hm=>hle a ha m (Zc _ hm)) h2
   refine⟨k1,k2,fun x hx=> ?_⟩
   rcases hx with hx|hx
   ·rcases Zk.1 hx with rfl|hx
    ·obtain⟨d,hd,hdx⟩:=List.any_eq_true.1 h
     obtain⟨e,he,hed⟩:=k3 d (.inr hd)
     have hd8:=ha d hd
     have he8:e.length=8:=(minF_mem _ _ e he).elim (hl' e) (ha e)
     exact⟨e,he,divL_trans (he8.trans hd8.symm) (hd8.trans hm8.symm) hed hdx⟩
    ·exact k3 x (.inl hx)
   ·exact k3 x (.inr hx)
  ·rename_i h
   have hno:∀a∈acc,XU a m=false:=fun a ha'=>by
    cases hb:XU a m with
    |false=>rfl
    |true=>exact absurd (List.any_eq_true.2 ⟨a,ha',hb⟩) h
   have hlt:∀a∈acc,XW m a=.ofNat 1:=fun a ha'=>by
    rcases WB m a with h3|h3|h3
    ·exact h3
    ·exact absurd h3 (hle a ha' m (Zh ..))
    ·have:=Uh (hm8.trans (ha a ha').symm) h3
     subst this
     exact absurd (divL_refl m) (by rw[hno m ha'];decide)
   have ha':∀x∈acc++[m],x.length=8:=fun x hx=>by
    rcases Z3.1 hx with hx|hx
    ·exact ha x hx
    ·rw[Yo.1 hx];exact hm8
   obtain⟨k1,k2,k3⟩:=min_spec (l:=l) (acc:=acc++[m]) hl' ha' p2 (List.pairwise_append.2 ⟨h1,List.pairwise_singleton ..,fun a ha x hx=>by rw[Yo.1 hx];exact hlt a ha⟩)
    (fun a ha x hx=>by
     rcases Z3.1 ha with ha|ha
     ·exact hle a ha x (Zc _ hx)
     ·rw[Yo.1 ha];exact p1 x hx)
    (fun a ha b hb hd=>by
     rcases Z3.1 ha with ha|ha<;>rcases Z3.1 hb with hb|hb
     ·exact h2 a ha b hb hd
     ·rw[Yo.1 hb,hno a ha]at hd;cases hd
     ·rw[Yo.1 ha]at hd
      have h3:=(cmpL_flip m b).2 (hlt b hb)
      exact absurd h3 (divL_le hd)
     ·rw[Yo.1 ha,Yo.1 hb])
   refine⟨k1,k2,fun x hx=> ?_⟩
   rcases hx with hx|hx
   ·rcases Zk.1 hx with rfl|hx
    ·exact k3 x (.inr (List.mem_append_right _ (List.mem_singleton_self ..)))
    ·exact k3 x (.inl hx)
   ·exact k3 x (.inr (List.mem_append_left _ hx))
theorem inc_ext:∀{l k:List (List Nat)},(∀m∈l,m.length=8)->(∀m∈k,m.length=8)->IncM l->IncM k->(∀x,x∈l↔x∈k)->l=k
 |[],[],_,_,_,_,_=>rfl
 |[],b::k,_,_,_,_,h=>by have:=(h b).2 (Zh ..);cases this
 |a::l,[],_,_,_,_,h=>by have:=(h a).1 (Zh ..);cases this
 |a::l,b::k,hl,hk,h1,h2,h=>by
  obtain⟨p1,p2⟩:=Zt.1 h1
  obtain⟨q1,q2⟩:=Zt.1 h2
  have irr:∀m:List Nat,¬XW m m=.ofNat 1:=fun m e=>by rw[UR]at e;cases e
  have asym:∀x y:List Nat,XW x y=.ofNat 1->¬XW y x=.ofNat 1:=fun x y e e'=>by
   have:=(cmpL_flip x y).2 e
   rw[this]at e';cases e'
  have e:a=b:=by
   rcases Zk.1 ((h a).1 (Zh ..))with e|e
   ·exact e
   ·rcases Zk.1 ((h b).2 (Zh ..))with e'|e'
    ·exact e'.symm
    ·exact absurd (p1 b e') (asym _ _ (q1 a e))
  subst e
  congr 1
  refine inc_ext (fun x hx=>hl x (Zc _ hx)) (fun x hx=>hk x (Zc _ hx)) p2 q2 fun x=>⟨fun hx=> ?_,fun hx=> ?_⟩
  ·rcases Zk.1 ((h x).1 (Zc _ hx))with e|e
   ·subst e;exact absurd (p1 x hx) (irr x)
   ·exact e
  ·rcases Zk.1 ((h x).2 (Zc _ hx))with e|e
   ·subst e;exact absurd (q1 x hx) (irr x)
   ·exact e
def minL (ms:List (List Nat)):List (List Nat):=Tl (WG ms) []
theorem UK {ms:List (List Nat)}(h8:∀m∈ms,m.length=8):IncM (minL ms)/\(∀a∈minL ms,∀b∈minL ms,XU a b=true->a=b)/\(∀m∈ms,∃d∈minL ms,XU d m=true)/\(∀m∈minL ms,m∈ms):=by
 have h8':∀m∈WG ms,m.length=8:=fun m hm=>h8 m ((Wu ms).mem_iff.1 hm)
 obtain⟨k1,k2,k3⟩:=min_spec (acc:=[]) h8' (fun _ h=>by cases h) (Sb h8) List.Pairwise.nil (fun _ h=>by cases h) (fun _ h=>by cases h)
 refine⟨k1,k2,fun m hm=>k3 m (.inl ((Wu ms).mem_iff.2 hm)),fun m hm=> ?_⟩
 rcases minF_mem _ _ m hm with h|h
 ·exact(Wu ms).mem_iff.1 h
 ·cases h
theorem minL_sub {ms ns:List (List Nat)}(h8:∀m∈ms,m.length=8)(k8:∀m∈ns,m.length=8)(h:∀x,x∈ms↔x∈ns):∀x∈minL ms,x∈minL ns:=by
 obtain⟨-,a2,a3,a4⟩:=UK h8
 obtain⟨-,-,b3,b4⟩:=UK k8
 intro x hx
 have hxm:=a4 x hx
 obtain⟨d,hd,hdx⟩:=b3 x ((h x).1 hxm)
 have hdm:=(h d).2 (b4 d hd)
 obtain⟨e,he,hed⟩:=a3 d hdm
 have e8:=h8 e (a4 e he)
 have d8:=h8 d hdm
 have x8:=h8 x hxm
 have hex:=a2 e he x hx (divL_trans (e8.trans d8.symm) (d8.trans x8.symm) hed hdx)
 subst hex
 rw[divL_antisymm (x8.trans d8.symm) hed hdx]
 exact hd
theorem minL_ext {ms ns:List (List Nat)}(h8:∀m∈ms,m.length=8)(k8:∀m∈ns,m.length=8)(h:∀x,x∈ms↔x∈ns):minL ms=minL ns:=
 inc_ext (fun m hm=>h8 m ((UK h8).2.2.2 m hm)) (fun m hm=>k8 m ((UK k8).2.2.2 m hm)) (UK h8).1 (UK k8).1
  fun x=>⟨minL_sub h8 k8 h x,minL_sub k8 h8 (fun x=>(h x).symm) x⟩
end Go.Proofs.YtefpgecinlekpaaGreat
