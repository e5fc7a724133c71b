/- Polynomials out of raw numbers: lists. -/
import Derived.Test.YtefpgecinlekpaaGreatMade
set_option maxHeartbeats 16000000
set_option maxRecDepth 100000
namespace Go.Proofs.YtefpgecinlekpaaGreat
open Go.Ev Go.Num
theorem poly_ret {B:Base}(hB:Std B){R:PL}(hR:Tt R):∃r ts,Ret B 8 [.agg [R]] (.one r)/\PQ r ts/\Gen 4 15 5 ts:=by
 obtain⟨r,ts,g1,g2,g3⟩:=made_ret hB hR (d:=4) (tm:=5) (by omega) (by omega)
 refine⟨r,ts,Ret.of (hB.tab _ _ rfl) ((g1.evt.and hB.evt).mono fun E K ⟨e1,hmd⟩=> ?_),g2,g3⟩
 simp only[EVS,EVN,reduceIte,Nat.reduceEqDiff,Nat.reduceLeDiff,Zr,x8,hmd,MDS,e1]
inductive ListR (E:Oracle)(d tm:Nat):List (List PL)->List PL->Prop
 |nil:ListR E d tm [] []
 |cons {R r:PL} {ls:List (List PL)} {rs:List PL} (h1:E.pure 26 [.agg [R],.one (.int .i64 (.ofNat 3)),.one (.int .i64 (.ofNat d)),.one (.int .i64 (.ofNat tm))]=some (.one r)) (h:ListR E d tm ls rs):ListR E d tm ([R]::ls) (r::rs)
theorem pc_snoc1 (es:List PL)(r:PL):pc (XD es)++[[.p r]]=pc (XD (es++[r])):=by simp[pc,XD]
theorem list_go {E:Oracle}{K:Nat}(hmd:E.mode=md){L:PL}{all:List (List PL)}(sL:Sl L all){d tm mx:Nat}(hmx:mx<1000):∀(rest:List (List PL)) (rs:List PL),ListR E d tm rest rs->
  ∀(i k v:Nat) (o:List PL) (G:List Blk),(all.take mx).drop i=rest->i+rest.length=(all.take mx).length->o.length=i->rest.length<k->
  ∃T' G' v',Xa E K 0 [0,1,2,3,4,11,12] x15_1 k ⟨[(0,.one (.p L)),(1,.one (.p (.int .i64 (.ofNat 3)))),(2,.one (.p (.int .i64 (.ofNat d)))),(3,.one (.p (.int .i64 (.ofNat tm)))),(4,.one (.p (.int .i64 (.ofNat mx)))),(11,.one (.own 0 v 0 o.length)),(12,.one (.p (.int .i64 (.ofNat i))))],⟨false,v,1,pc (XD o),false,30⟩::G⟩=
   some (.exit 0,⟨T',⟨false,v',1,pc (XD (o++rs)),false,30⟩::G'⟩)/\Xf T' 11=some (.one (.own 0 v' 0 (o++rs).length)):=by
 intro rest rs h
 induction h with
 |nil=>
  intro i k v o G _ hi ho hk
  obtain⟨k,rfl⟩:∃k',k=k'+1:=⟨k-1,by omega⟩
  simp only[Zw,Yu,ZK]at hi
  have :∃T' G',Xa E K 0 [0,1,2,3,4,11,12] x15_1 (k+1) ⟨[(0,.one (.p L)),(1,.one (.p (.int .i64 (.ofNat 3)))),(2,.one (.p (.int .i64 (.ofNat d)))),(3,.one (.p (.int .i64 (.ofNat tm)))),(4,.one (.p (.int .i64 (.ofNat mx)))),(11,.one (.own 0 v 0 o.length)),(12,.one (.p (.int .i64 (.ofNat i))))],⟨false,v,1,pc (XD o),false,30⟩::G⟩=
   some (.exit 0,⟨T',⟨false,v,1,pc (XD o),false,30⟩::G'⟩)/\Xf T' 11=some (.one (.own 0 v 0 o.length)):=by
   by_cases hlt:i<all.length
   ·have h2:¬i<mx:=by omega
    apply ex2
    ·rw[Xa]
     simp only[EVS,EVN,reduceIte,Nat.reduceEqDiff,x15_1,sL.len,hlt,h2]
     rfl
    ·simp only[EVS,reduceIte,Nat.reduceEqDiff]
   ·apply ex2
    ·rw[Xa]
     simp only[EVS,EVN,reduceIte,Nat.reduceEqDiff,x15_1,sL.len,hlt]
     rfl
    ·simp only[EVS,reduceIte,Nat.reduceEqDiff]
  obtain⟨T',G',g1,g2⟩:=this
  exact⟨T',G',v,by simpa using g1,by simpa using g2⟩
 |@cons R r ls rs h1 h ih=>
  intro i k v o G hdr hi ho hk
  obtain⟨k,rfl⟩:∃k',k=k'+1:=⟨k-1,by omega⟩
  simp only[Zi,ZK]at hi hk
  have hlt:i<all.length:=by omega
  have hlt2:i<mx:=by omega
  obtain⟨gq,dq⟩:=Xq hdr
  have grow:all[i]? =some [R]:=by rw[Z7,if_pos hlt2]at gq;exact gq
  have hidx:=fun(hh:HF) (kd:IntKind)=>sL.idx (h:=hh) (k:=kd) (sz:=1) grow rfl
  have f1:Xd .i64 (.ofNat (i+1))=.ofNat (i+1):=wrap_i64 (by omega)
  have f2:(o.length+1)*24<=lim:=by unfold lim;omega
  have f3:o.length+1<=9223372036854775807:=by omega
  obtain⟨T',G',v',g1,g2⟩:=ih (i+1) k (v+1) (o++[r]) (G++[⟨false,0,1,[[.p r]],false,30⟩]) dq (by rw[ZK];omega) (by simp;omega) (by omega)
  refine⟨T',G',v',?_,by simpa using g2⟩
  rw[Zq,ZX,Zm,ZT]at g1
  rw[Xa]
  simp only[EVS,EVH,EVG,EVN,EVF,reduceIte,Nat.reduceEqDiff,Nat.reduceLT,x15_1,sL.len,hlt,hlt2,hidx,hmd,MDS,h1,f1,f2,f3,XR,Ww,pc_snoc1]
  exact g1
theorem listR_evt {B:Base}(hB:Std B){d tm:Nat}(hd:d<100)(htm:tm<1000):∀{ls:List (List PL)},(∀c∈ls,∃R,c=[R]/\Tt R)->∃rs tss,(Evt B fun E _=>ListR E d tm ls rs)/\PQs rs tss/\(∀f∈tss,Gen d (tm*3) tm f)/\rs.length=ls.length
 |[],_=>⟨[],[],Evt.of fun _ _=>.nil,.nil,(fun _ h=>by cases h),rfl⟩
 |c::ls,h=>by
  obtain⟨R,rfl,hR⟩:=h c (Zh ..)
  obtain⟨r,ts,g1,g2,k2⟩:=made_ret hB hR hd htm
  obtain⟨rs,tss,g3,g4,k4,g5⟩:=listR_evt hB hd htm fun c hc=>h c (Zc _ hc)
  exact⟨r::rs,ts::tss,(g3.and g1.evt).mono fun E K ⟨e1,e2⟩=>.cons e2 e1,.cons g2 g4,(fun f hf=>by rcases Zk.1 hf with rfl|hf;exact k2;exact k4 f hf),by simp[g5]⟩
def RawList (L:PL):Prop:=∃ls,Sl L ls/\∀c∈ls,∃R,c=[R]/\Tt R
theorem list_ret {B:Base}(hB:Std B){L:PL}(hL:RawList L){d tm mx:Nat}(hd:d<100)(htm:tm<1000)(hmx:mx<1000):
  ∃rs tss,Ret B 15 [.one L,.one (.int .i64 (.ofNat 3)),.one (.int .i64 (.ofNat d)),.one (.int .i64 (.ofNat tm)),.one (.int .i64 (.ofNat mx))] (.one (.lst (XD rs)))/\PQs rs tss/\(∀f∈tss,Gen d (tm*3) tm f)/\rs.length<=mx:=by
 obtain⟨ls,sL,hls⟩:=hL
 obtain⟨rs,tss,g1,g2,k2,g3⟩:=listR_evt hB hd htm (ls:=ls.take mx) fun c hc=>hls c (YE hc)
 have hlen:(ls.take mx).length<=mx:=by rw[ZK];omega
 refine⟨rs,tss,Ret.of (hB.tab _ _ rfl) ((g1.and (hB.evt.and (Evt.ge (mx+1)))).mono fun E K ⟨e1,hmd,hK⟩=> ?_),g2,k2,by omega⟩
 obtain⟨T',G',v',k1,k2⟩:=list_go (K:=K) hmd sL hmx (ls.take mx) rs e1 0 K 0 [] [] (by simp) (by simp) rfl (by omega)
 have ht:(pc (XD rs)).take rs.length=pc (XD rs):=V5 (XD rs) (by rw[Ww];exact Zg _)
 have hf:=fun h=>Uv 5 h (XD rs)
 have hp0:pc (XD [])=[]:=rfl
 rw[hp0]at k1
 simp only[ZL,Zw]at k1 k2
 simp only[EVS,EVN,reduceIte,Nat.reduceEqDiff,Nat.reduceLeDiff,Nat.reduceAdd,x15,k1,k2,ht,hf,XR,Ww,Zg]
theorem lists_ret {B:Base}(hB:Std B){L k:PL}(hL:RawList L):
  ∃rs tss,Ret B 9 [.agg [L,k]] (.one (.lst (XD rs)))/\PQs rs tss/\(∀f∈tss,Gen 3 12 4 f)/\rs.length<=3:=by
 obtain⟨rs,tss,g1,g2,g3,g4⟩:=list_ret hB hL (d:=3) (tm:=4) (mx:=3) (by omega) (by omega) (by omega)
 refine⟨rs,tss,Ret.of (hB.tab _ _ rfl) ((g1.evt.and hB.evt).mono fun E K ⟨e1,hmd⟩=> ?_),g2,g3,g4⟩
 simp only[EVS,EVN,reduceIte,Nat.reduceEqDiff,Nat.reduceLeDiff,Nat.reduceAdd,Zr,x9,hmd,MDS,e1]
abbrev poB (v:Nat)(o:List PL):Blk:=⟨false,v,1,pc (XD o),false,30⟩
theorem turn_round {E:Oracle}{K k v i:Nat}{L x:PL}{all:List PL}(sL:Sl L (XD all))(gi:all[i]? =some x){o:List PL}(ho:o.length<1000000)(hi:i<1000000)(H G:List Blk):
  ∃G',Xa E K 0 [0,3,4] x35_1 (k+1) ⟨[(0,.one (.p L)),(3,.one (.own H.length v 0 o.length)),(4,.one (.p (.int .i64 (pI (i+1)))))],H++poB v o::G⟩=
   Xa E K 0 [0,3,4] x35_1 k ⟨[(0,.one (.p L)),(3,.one (.own H.length (v+1) 0 (o.length+1))),(4,.one (.p (.int .i64 (pI i))))],H++poB (v+1) (o++[x])::G'⟩:=by
 have hidx:=fun(hh:HF) (kd:IntKind)=>sL.idx (h:=hh) (k:=kd) (sz:=1) (Ud gi) rfl
 have f1:Xd .i64 (.ofNat i-.ofNat 1)=pI i:=WV (by omega)
 have f2:(o.length+1)*24<=lim:=by unfold lim;omega
 have f3:o.length+1<=9223372036854775807:=by omega
 have e:poB (v+1) (o++[x])=⟨false,v+1,1,pc (XD o)++[[.p x]],false,30⟩:=by unfold poB;rw[pc_snoc1]
 rw[e]
 apply Exists.intro
 rw[Xa]
 simp(decide:=true)only[EVS,EVN,poB,reduceIte,Zr,x35_1,pI_succ,hidx,f1,f2,f3,XR,Ww,Vn,XK,XS,Zq,Zm]
 rfl
theorem ex3 {α β γ:Type}{p q:α->β->γ->Prop}{x:α}{y:β}{z:γ}(h:p x y z)(k:q x y z):∃x y z,p x y z/\q x y z:=⟨x,y,z,h,k⟩
theorem turn_go {E:Oracle}{K:Nat}{L:PL}{all:List PL}(sL:Sl L (XD all))(hl:all.length<1000000)(H:List Blk):∀(i k v:Nat) (o:List PL) (G:List Blk),i<=all.length->o.length+i<1000000->i<k->
  ∃T' G' v',Xa E K 0 [0,3,4] x35_1 k ⟨[(0,.one (.p L)),(3,.one (.own H.length v 0 o.length)),(4,.one (.p (.int .i64 (pI i))))],H++poB v o::G⟩=
   some (.exit 0,⟨T',H++poB v' (o++(all.take i).reverse)::G'⟩)/\Xf T' 3=some (.one (.own H.length v' 0 (o++(all.take i).reverse).length))
 |0,k,v,o,G,_,_,hk=>by
  obtain⟨k,rfl⟩:∃k',k=k'+1:=⟨k-1,by omega⟩
  rw[List.take_zero,List.reverse_nil,ZO]
  apply ex3
  ·rw[Xa]
   simp only[EVS,EVN,reduceIte,Nat.reduceEqDiff,x35_1,pI]
   rfl
  ·simp only[EVS,reduceIte,Nat.reduceEqDiff]
 |i+1,k,v,o,G,hi,hoi,hk=>by
  obtain⟨k,rfl⟩:∃k',k=k'+1:=⟨k-1,by omega⟩
  have gi:all[i]? =some all[i]:=Zf (by omega)
  obtain⟨G1,hr⟩:=turn_round (E:=E) (K:=K) (k:=k) (v:=v) sL gi (o:=o) (by omega) (by omega) H G
  obtain⟨T',G',v',g1,g2⟩:=turn_go sL hl H i k (v+1) (o++[all[i]]) G1 (by omega) (by simp;omega) (by omega)
  have e:o++(all.take (i+1)).reverse=o++[all[i]]++(all.take i).reverse:=by
   rw[List.take_add_one,gi];simp
  rw[e]
  rw[Zm,ZT]at g1
  exact⟨T',G',v',by rw[hr];exact g1,g2⟩
theorem Va.ofEx {B:Base}{f:Nat}{a:List DV}{H:List Blk}{xf:XFunc}{p:DV×List Blk->Prop}(hx:B.X f=some xf)(h:Evt B fun E K=>∃r,VD E K xf a H=some r/\p r):∃r,Va B f a H r.1 r.2/\p r:=by
 obtain⟨N,hN⟩:=h
 obtain⟨r,h1,h2⟩:=hN N N (Zg _) (Zg _)
 refine⟨r,⟨N,N+1,?_⟩,h2⟩
 show(match B.X f with
  |some xf=>VD (B.E N N) N xf a H
  |none=>(B.E N N).heap f a H)=some r
 rw[hx];exact h1
theorem turned_ret {B:Base}(hB:Std B){L:PL}{rs:List PL}(sL:Sl L (XD rs))(hl:rs.length<100000)(H:List Blk):∃G v,Va B 35 [.one (.p L)] H (.one (.own H.length v 0 rs.length)) (H++poB v rs.reverse::G):=by
 obtain⟨r,h,v,G,rfl⟩:=Va.ofEx (p:=fun r=>∃v G,r=(.one (.own H.length v 0 rs.length),H++poB v rs.reverse::G)) (a:=[.one (.p L)]) (H:=H) (hB.tab 35 _ rfl) ((hB.evt.and (Evt.ge (rs.length+1))).mono fun E K ⟨hmd,hK⟩=>by
  obtain⟨T',G',v',k1,k2⟩:=turn_go (E:=E) (K:=K) sL (by omega) H rs.length K 0 [] [] (Zg _) (by simp;omega) (by omega)
  rw[ZL,Yc]at k1 k2
  rw[List.length_reverse]at k2
  have hp0:poB 0 []=⟨false,0,1,[],false,30⟩:=rfl
  rw[hp0]at k1
  simp only[Zw]at k1
  have f1:Xd .i64 (.ofNat rs.length-.ofNat 1)=pI rs.length:=WV (by omega)
  refine⟨_,?_,v',G',rfl⟩
  simp only[EVS,EVH,EVN,reduceIte,Nat.reduceEqDiff,Nat.reduceLeDiff,x35,sL.len,Ww,f1,k1,k2])
 exact⟨G,v,h⟩
end Go.Proofs.YtefpgecinlekpaaGreat
