/- Leading terms, in the program and the reference. -/
import Derived.Test.YtefpgecinlekpaaGreatQPol
set_option maxHeartbeats 16000000
set_option maxRecDepth 100000
namespace Go.Num
def Uz (o:List (List Int))(b:Qm):List Qm->Qm
 |[]=>b
 |t::ts=>Uz o (if X9 o t.2 b.2=.ofNat 1 then t else b) ts
theorem Vc:∀(o:List (List Int)) (m n:List Nat),X9 o m n=.ofNat 1\/X9 o m n=.negSucc 0\/X9 o m n=.ofNat 0
 |[],m,n=>WA m n
 |r::o,m,n=>by
  simp only[X9]
  split
  ·exact .inr (.inl rfl)
  ·split
   ·exact .inl rfl
   ·exact Vc o m n
theorem Sx (o:List (List Int)):∀(ts:List Qm) (b:Qm),Uz o b ts=b\/Uz o b ts∈ts
 |[],b=>.inl rfl
 |t::ts,b=>by
  simp only[Uz]
  split
  ·rcases Sx o ts t with h|h
   ·exact .inr (by rw[h];exact Zh ..)
   ·exact .inr (Zc _ h)
  ·rcases Sx o ts b with h|h
   ·exact .inl h
   ·exact .inr (Zc _ h)
end Go.Num
namespace Go.Proofs.YtefpgecinlekpaaGreat
open Go.Ev Go.Num
def CmpR (E:Oracle)(f:Nat)(l:PL)(o:List (List Int))(ts:List Qm):Prop:=∀t∈ts,∀u∈ts,E.pure f [.one l,.agg (mo t.2),.agg (mo u.2)]=some (.one (.int .i64 (X9 o t.2 u.2)))
theorem rcmpR_evt {B:Base}(hB:Std B){l:PL}{o:List (List Int)}(sl:IsO l o)(ho:V9 o)(hol:o.length<1000000){ts:List Qm}(hm:Mok ts):Evt B fun E _=>CmpR E 31 l o ts:=
 Tb fun t ht=>Tb fun u hu=>(rcmpO_ret hB sl ho (hm t ht) (hm u hu) hol).evt
abbrev tmB (c:List PL):Blk:=⟨false,0,12,[c.map DL.p],false,63⟩
abbrev zT:List DL:=[.p (.bool false),.p .nilS,.p (.bool false),.p .nilS,.p (.int .i64 (.ofNat 0)),.p (.int .i64 (.ofNat 0)),.p (.int .i64 (.ofNat 0)),.p (.int .i64 (.ofNat 0)),.p (.int .i64 (.ofNat 0)),.p (.int .i64 (.ofNat 0)),.p (.int .i64 (.ofNat 0)),.p (.int .i64 (.ofNat 0))]
abbrev zTP:List PL:=[.bool false,.nilS,.bool false,.nilS,.int .i64 (.ofNat 0),.int .i64 (.ofNat 0),.int .i64 (.ofNat 0),.int .i64 (.ofNat 0),.int .i64 (.ofNat 0),.int .i64 (.ofNat 0),.int .i64 (.ofNat 0),.int .i64 (.ofNat 0)]
theorem rlead_loop {E:Oracle}{K:Nat}{lp lo:PL}{o:List (List Int)}{tall:List Qm}(hmd:E.mode=md){all:List (List PL)}(sl:Sl lp all)(hl:all.length<1000000)(hc:CmpR E 31 lo o tall):∀{rest:List (List PL)} {ts:List Qm},XF rest ts->(∀t∈ts,t∈tall)->∀(i k:Nat) (bc:List PL) (b:Qm),Vy bc b->b∈tall->all.drop i=rest->i+rest.length=all.length->rest.length<k->
  ∃T' bc',Xc E K 0 [0,1,4,6,7] x29_1 k ⟨[(0,.one (.p lp)),(1,.one (.p lo)),(4,.one (.ptr 0 0 0 0)),(6,.one (.ptr 1 0 0 0)),(7,.one (.p (.int .i64 (.ofNat i))))],[⟨false,0,12,[zT],false,63⟩,tmB bc]⟩=some (.exit 0,⟨T',[⟨false,0,12,[zT],false,63⟩,tmB bc']⟩)/\(Xh T' 4=some (.one (.ptr 0 0 0 0))/\Xh T' 6=some (.one (.ptr 1 0 0 0)))/\Vy bc' (Uz o b ts):=by
 intro rest ts h
 induction h with
 |nil=>
  intro _ i k bc b hb _ hd hi hk
  obtain⟨k,rfl⟩:∃k',k=k'+1:=⟨k-1,by omega⟩
  have hlt:¬i<all.length:=by simp at hi;omega
  have :∃T',Xc E K 0 [0,1,4,6,7] x29_1 (k+1) ⟨[(0,.one (.p lp)),(1,.one (.p lo)),(4,.one (.ptr 0 0 0 0)),(6,.one (.ptr 1 0 0 0)),(7,.one (.p (.int .i64 (.ofNat i))))],[⟨false,0,12,[zT],false,63⟩,tmB bc]⟩=some (.exit 0,⟨T',[⟨false,0,12,[zT],false,63⟩,tmB bc]⟩)/\(Xh T' 4=some (.one (.ptr 0 0 0 0))/\Xh T' 6=some (.one (.ptr 1 0 0 0))):=by
   apply ex1
   ·rw[Xc]
    simp only[EVS,EVN,reduceIte,Nat.reduceEqDiff,x29_1,sl.len,hlt]
    rfl
   ·simp only[EVS,reduceIte,Nat.reduceEqDiff,and_self]
  obtain⟨T',g1,g2⟩:=this
  exact⟨T',bc,g1,g2,hb⟩
 |@cons ch t rest ts ht h ih=>
  intro hin i k bc b hb hbm hd hi hk
  obtain⟨k,rfl⟩:∃k',k=k'+1:=⟨k-1,by omega⟩
  simp only[Zk]at hi hk
  have hlt:i<all.length:=by omega
  obtain⟨gp,dp⟩:=Xu hd
  have hcc:=hc t (hin t (Zh ..)) b hbm
  have ht':=ht
  have hb':=hb
  obtain⟨x,y,z,u,rfl,-,hm⟩:=ht'
  obtain⟨x2,y2,z2,u2,rfl,-,hn⟩:=hb'
  have ip:=fun(hh:HF) (kd:IntKind)=>sl.idx (h:=hh) (k:=kd) (sz:=12) gp (by simp[Xr,hm.1])
  have f1:Xd .i64 (.ofNat (i+1))=.ofNat (i+1):=wrap_i64 (by omega)
  have m8:=hm.1
  have n8:=hn.1
  have tm:(moD t.2).take 8=moD t.2:=Zd (by rw[Xa];omega)
  have tn:(moD b.2).take 8=moD b.2:=Zd (by rw[Xa];omega)
  have dn:(moD b.2).drop 8=[]:=Zp (by rw[Xa];omega)
  by_cases hq:X9 o t.2 b.2=.ofNat 1
  ·obtain⟨T',bc',g1,g2,g3⟩:=ih (fun s hs=>hin s (Zc _ hs)) (i+1) k _ t ht (hin t (Zh ..)) dp (by omega) (by omega)
   refine⟨T',bc',?_,g2,by simp only[Uz,if_pos hq];exact g3⟩
   rw[hq]at hcc
   simp only[tmB,Zu,XZ]at g1
   rw[Xc]
   simp only[tmB,EVS,EVN,EVF,reduceIte,Nat.reduceEqDiff,Nat.reduceLeDiff,Nat.reduceLT,Nat.reduceAdd,x29_1,sl.len,hlt,ip,XZ,Xa,Xr,m8,n8,tm,tn,dn,XJ,XM,hmd,MDS,hcc,f1]
   exact g1
  ·obtain⟨T',bc',g1,g2,g3⟩:=ih (fun s hs=>hin s (Zc _ hs)) (i+1) k _ b hb hbm dp (by omega) (by omega)
   refine⟨T',bc',?_,g2,by simp only[Uz,if_neg hq];exact g3⟩
   have hlf:ltF (.ofNat 0) (X9 o t.2 b.2)=false:=by
    rcases Vc o t.2 b.2 with e|e|e
    ·exact absurd e hq
    ·rw[e];rfl
    ·rw[e];rfl
   simp only[tmB,Zu,XZ]at g1
   rw[Xc]
   simp only[tmB,EVS,EVN,EVF,reduceIte,Nat.reduceEqDiff,Nat.reduceLeDiff,Nat.reduceAdd,x29_1,sl.len,hlt,ip,XZ,Xa,Xr,m8,n8,tm,tn,XJ,XM,hmd,MDS,hcc,hlf,f1]
   exact g1
theorem rlead_ret {B:Base}(hB:Std B){lp lo:PL}{o:List (List Int)}(so:IsO lo o)(ho:V9 o)(hol:o.length<1000000){t:Qm}{ts:List Qm}(hp:PQ lp (t::ts))(hl:ts.length<100000):∃c,Ret B 29 [.one lp,.one lo] (.tup [.agg c,.one (.bool true)])/\Vy c (Uz o t ts):=by
 have hmk:=hp.mok
 obtain⟨es,sl,hp⟩:=hp
 cases hp with
 |@cons ch t rest ts ht h=>
  have hlen:=h.length
  have hc:=rcmpR_evt hB so ho hol hmk
  have main:∀E K,CmpR E 31 lo o (t::ts)->E.mode=md->rest.length+2<=K->∃c,VR E K x29 [.one lp,.one lo]=some (.tup [.agg c,.one (.bool true)])/\Vy c (Uz o t ts):=by
   intro E K hcr hmd hK
   obtain⟨T',bc',g1,⟨g2,g3⟩,g4⟩:=rlead_loop (K:=K) hmd sl (by simp;omega) hcr h (fun s hs=>Zc _ hs) 1 K ch t ht (Zh ..) rfl (by simp;omega) (by omega)
   refine⟨bc',?_,g4⟩
   obtain⟨x,y,z,u,rfl,-,hm⟩:=ht
   obtain⟨x2,y2,z2,u2,rfl,-,hn⟩:=g4
   have m8:=hm.1
   have n8:=hn.1
   have ip:=fun(hh:HF) (kd:IntKind)=>sl.idx (h:=hh) (k:=kd) (sz:=12) (i:=0) rfl (by simp[Xr,m8])
   have tm:(moD t.2).take 8=moD t.2:=Zd (by rw[Xa];omega)
   have tn:(moD (Uz o t ts).2).take 8=moD (Uz o t ts).2:=Zd (by rw[Xa];omega)
   have dm:(moD t.2).drop 8=[]:=Zp (by rw[Xa];omega)
   have dn:(moD (Uz o t ts).2).drop 8=[]:=Zp (by rw[Xa];omega)
   simp only[tmB,Zu,XZ]at g1
   have hne:¬rest.length+1=0:=by omega
   simp only[EVS,EVN,EVF,reduceIte,Nat.reduceEqDiff,Nat.reduceLeDiff,Nat.reduceAdd,x29,sl.len,hne,ip,XZ,Xa,m8,n8,tm,tn,XJ,g1,g2,g3]
  obtain⟨N,hN⟩:=hc.and (hB.evt.and (Evt.ge (B:=B) (rest.length+2)))
  obtain⟨h1,h2,h3⟩:=hN N N (Zg _) (Zg _)
  obtain⟨c,c1,c2⟩:=main _ N h1 h2 h3
  refine⟨c,⟨N,N+1,?_⟩,c2⟩
  show(match B.X 29 with
   |some xf=>VR (B.E N N) N xf _
   |none=>(B.E N N).pure _ _)=_
  rw[hB.tab _ _ rfl]
  exact c1
theorem Ret.ofEx {B:Base}{f:Nat}{a:List PV}{xf:XFunc}{p:PV->Prop}(hx:B.X f=some xf)(h:Evt B fun E K=>∃r,VR E K xf a=some r/\p r):∃r,Ret B f a r/\p r:=by
 obtain⟨N,hN⟩:=h
 obtain⟨r,h1,h2⟩:=hN N N (Zg _) (Zg _)
 refine⟨r,⟨N,N+1,?_⟩,h2⟩
 show(match B.X f with
  |some xf=>VR (B.E N N) N xf a
  |none=>(B.E N N).pure f a)=some r
 rw[hx];exact h1
end Go.Proofs.YtefpgecinlekpaaGreat
namespace Go.Num
def Ww (o:List (List Int)):List Qm->Option Qm
 |[]=>none
 |t::ts=>some (Uz o t ts)
def firstF (o:List (List Int))(m:List Nat):List (List Qm)->Nat->Option Nat
 |[],_=>none
 |f::fs,i=>match Ww o f with
  |some s=>if W4 s.2 m=true then some i else firstF o m fs (i+1)
  |none=>firstF o m fs (i+1)
def XN (t s:Qm):Qm:=(t.1 / s.1,Wv t.2 s.2)
end Go.Num
namespace Go.Proofs.YtefpgecinlekpaaGreat
open Go.Ev Go.Num
theorem rlead_nil {B:Base}(hB:Std B){lp lo:PL}(hp:PQ lp []):Ret B 29 [.one lp,.one lo] (.tup [.agg zTP,.one (.bool false)]):=by
 obtain⟨es,sl,hp⟩:=hp
 cases hp
 have hlen:=sl.len
 refine Ret.of (hB.tab _ _ rfl) (Evt.of fun K n=> ?_)
 simp only[EVS,EVN,reduceIte,Nat.reduceEqDiff,Nat.reduceLeDiff,x29,hlen]
theorem rleadO_ret {B:Base}(hB:Std B){lp lo:PL}{o:List (List Int)}(so:IsO lo o)(ho:V9 o)(hol:o.length<1000000){ts:List Qm}(hp:PQ lp ts)(hl:ts.length<100000):∃c b,Ret B 29 [.one lp,.one lo] (.tup [.agg c,.one (.bool b)])/\match Ww o ts with |some s=>b=true/\Vy c s|none=>b=false/\c=zTP:=by
 cases ts with
 |nil=>exact⟨zTP,false,rlead_nil hB hp,rfl,rfl⟩
 |cons t ts=>
  obtain⟨c,h1,h2⟩:=rlead_ret hB so ho hol hp (by simp at hl;omega)
  exact⟨c,true,h1,rfl,h2⟩
abbrev PQs (ls:List PL)(fs:List (List Qm)):Prop:=All2 PQ ls fs
def X3 (ls:List PL):List (List PL):=ls.map fun p=>[p]
theorem onesQ_get {ls:List PL}{i:Nat}{p:PL}(h:ls[i]? =some p):(X3 ls)[i]? =some [p]:=by simp[X3,h]
theorem onesQ_len (ls:List PL):(X3 ls).length=ls.length:=by simp[X3]
end Go.Proofs.YtefpgecinlekpaaGreat
namespace Go.Proofs.YtefpgecinlekpaaGreat
open Go.Ev Go.Num
def SzL (ts:List Qm):Prop:=Sz ts/\ts.length<50000
abbrev qB (lqs:List PL):Blk:=⟨false,0,1,pc (X3 lqs),false,30⟩
theorem pcQ_get {ls:List PL}{i:Nat}{p:PL}(h:ls[i]? =some p):(pc (X3 ls))[i]? =some [.p p]:=by simp[pc,X3,h]
theorem pcQ_set (ls:List PL)(i:Nat)(p:PL):(pc (X3 ls)).set i [.p p]=pc (X3 (ls.set i p)):=by simp[pc,X3,List.map_set]
theorem pcQ_len (ls:List PL):(pc (X3 ls)).length=ls.length:=by simp[pc,X3]
theorem Vy.eight {c:List PL}{t:Qm}(h:Vy c t):∃t1 t2 t3 t4,c=t1::t2::t3::t4::mo t.2:=by
 obtain⟨a,b,d,e,rfl,-,-⟩:=h;exact⟨_,_,_,_,rfl⟩
theorem Vy.mok8 {c:List PL}{t:Qm}(h:Vy c t):Xx t.2:=by
 obtain⟨a,b,d,e,-,-,h⟩:=h;exact h
theorem PQs.set {ls:List PL}{fs:List (List Qm)}(h:PQs ls fs){p:PL}{f:List Qm}(hp:PQ p f):∀(i:Nat),PQs (ls.set i p) (fs.set i f):=by
 induction h with
 |nil=>intro i;exact .nil
 |@cons x y xs ys h1 h2 ih=>
  intro i
  cases i with
  |zero=>exact .cons hp h2
  |succ i=>exact .cons h1 (ih i)
end Go.Proofs.YtefpgecinlekpaaGreat
