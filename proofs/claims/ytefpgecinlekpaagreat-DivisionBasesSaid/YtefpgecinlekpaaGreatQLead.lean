/- Leading terms, in the program and the reference. -/
import Derived.Test.YtefpgecinlekpaaGreatQPol
set_option maxHeartbeats 16000000
set_option maxRecDepth 100000
namespace Go.Num
def VB (o:List (List Int))(b:Qm):List Qm->Qm
 |[]=>b
 |t::ts=>VB o (if Wd o t.2 b.2=.ofNat 1 then t else b) ts
theorem Vm:∀(o:List (List Int)) (m n:List Nat),Wd o m n=.ofNat 1\/Wd o m n=.negSucc 0\/Wd o m n=.ofNat 0
 |[],m,n=>WB m n
 |r::o,m,n=>by
  simp only[Wd]
  split
  ·exact .inr (.inl rfl)
  ·split
   ·exact .inl rfl
   ·exact Vm o m n
theorem Sy (o:List (List Int)):∀(ts:List Qm) (b:Qm),VB o b ts=b\/VB o b ts∈ts
 |[],b=>.inl rfl
 |t::ts,b=>by
  simp only[VB]
  split
  ·rcases Sy o ts t with h|h
   ·exact .inr (by rw[h];exact Zh ..)
   ·exact .inr (Zc _ h)
  ·rcases Sy o ts b with h|h
   ·exact .inl h
   ·exact .inr (Zc _ h)
end Go.Num
namespace Go.Proofs.YtefpgecinlekpaaGreat
open Go.Ev Go.Num
def CmpR (E:Oracle)(f:Nat)(l:PL)(o:List (List Int))(ts:List Qm):Prop:=∀t∈ts,∀u∈ts,E.pure f [.one l,.agg (mo t.2),.agg (mo u.2)]=some (.one (.int .i64 (Wd o t.2 u.2)))
theorem pcmpR_evt {B:Base}(hB:Std B){l:PL}{o:List (List Int)}(sl:IsO l o)(ho:Tj o)(hol:o.length<1000000){ts:List Qm}(hm:Mok ts):Evt B fun E _=>CmpR E 60 l o ts:=
 TZ fun t ht=>TZ fun u hu=>(pcmpO_ret hB sl ho (hm t ht) (hm u hu) hol).evt
abbrev tmB (c:List PL):Blk:=⟨false,0,12,[c.map DL.p],false,63⟩
abbrev zT:List DL:=[.p (.bool false),.p .nilS,.p (.bool false),.p .nilS,.p (.int .i64 (.ofNat 0)),.p (.int .i64 (.ofNat 0)),.p (.int .i64 (.ofNat 0)),.p (.int .i64 (.ofNat 0)),.p (.int .i64 (.ofNat 0)),.p (.int .i64 (.ofNat 0)),.p (.int .i64 (.ofNat 0)),.p (.int .i64 (.ofNat 0))]
theorem plead_loop {E:Oracle}{K:Nat}{lo:PL}{o:List (List Int)}{tall:List Qm}(hmd:E.mode=md){all:List (List PL)}(hl:all.length<1000000)(hc:CmpR E 60 lo o tall):∀{rest:List (List PL)} {ts:List Qm},XJ rest ts->(∀t∈ts,t∈tall)->∀(i k:Nat) (bc:List PL) (b:Qm) (G:List Blk),VT bc b->b∈tall->all.drop i=rest->i+rest.length=all.length->rest.length<k->
  ∃T' bc' G',Xa E K 0 [1,4,6,17,18,19] x58_1 k ⟨[(1,.one (.p lo)),(4,.one (.ptr 0 0 0 0)),(6,.one (.ptr 1 0 0 0)),(17,.one (.p (.lst all))),(18,.one (.p (.int .i64 (.ofNat all.length)))),(19,.one (.p (.int .i64 (.ofNat i))))],⟨false,0,12,[zT],false,63⟩::tmB bc::G⟩=some (.exit 0,⟨T',⟨false,0,12,[zT],false,63⟩::tmB bc'::G'⟩)/\(Xf T' 4=some (.one (.ptr 0 0 0 0))/\Xf T' 6=some (.one (.ptr 1 0 0 0)))/\VT bc' (VB o b ts):=by
 intro rest ts h
 have sl:Sl (.lst all) all:=.lst
 induction h with
 |nil=>
  intro _ i k bc b G hb _ hd hi hk
  obtain⟨k,rfl⟩:∃k',k=k'+1:=⟨k-1,by omega⟩
  have hlt:¬i<all.length:=by simp at hi;omega
  have :∃T',Xa E K 0 [1,4,6,17,18,19] x58_1 (k+1) ⟨[(1,.one (.p lo)),(4,.one (.ptr 0 0 0 0)),(6,.one (.ptr 1 0 0 0)),(17,.one (.p (.lst all))),(18,.one (.p (.int .i64 (.ofNat all.length)))),(19,.one (.p (.int .i64 (.ofNat i))))],⟨false,0,12,[zT],false,63⟩::tmB bc::G⟩=some (.exit 0,⟨T',⟨false,0,12,[zT],false,63⟩::tmB bc::G⟩)/\(Xf T' 4=some (.one (.ptr 0 0 0 0))/\Xf T' 6=some (.one (.ptr 1 0 0 0))):=by
   apply ex1
   ·rw[Xa]
    simp only[EVS,EVN,reduceIte,Nat.reduceEqDiff,x58_1,hlt]
    rfl
   ·simp only[EVS,reduceIte,Nat.reduceEqDiff,and_self]
  obtain⟨T',g1,g2⟩:=this
  exact⟨T',bc,G,g1,g2,hb⟩
 |@cons ch t rest ts ht h ih=>
  intro hin i k bc b G hb hbm hd hi hk
  obtain⟨k,rfl⟩:∃k',k=k'+1:=⟨k-1,by omega⟩
  simp only[Zi]at hi hk
  have hlt:i<all.length:=by omega
  obtain⟨gp,dp⟩:=Xq hd
  have hcc:=hc t (hin t (Zh ..)) b hbm
  have ht':=ht
  have hb':=hb
  obtain⟨x,y,z,u,rfl,-,hm⟩:=ht'
  obtain⟨x2,y2,z2,u2,rfl,-,hn⟩:=hb'
  have ip:=fun(hh:HF) (kd:IntKind)=>sl.idx (h:=hh) (k:=kd) (sz:=12) gp (by simp[Xt,hm.1])
  have f1:Xd .i64 (.ofNat (i+1))=.ofNat (i+1):=wrap_i64 (by omega)
  have m8:=hm.1
  have n8:=hn.1
  have tm:(moD t.2).take 8=moD t.2:=Ze (by rw[Xb];omega)
  have tn:(moD b.2).take 8=moD b.2:=Ze (by rw[Xb];omega)
  have dn:(moD b.2).drop 8=[]:=Zp (by rw[Xb];omega)
  have w0:=Xx t.2
  by_cases hq:Wd o t.2 b.2=.ofNat 1
  ·obtain⟨T',bc',G',g1,g2,g3⟩:=ih (fun s hs=>hin s (Zc _ hs)) (i+1) k _ t (G++[⟨false,0,12,[.p (.bool x)::.p y::.p (.bool z)::.p u::moD t.2],false,63⟩]) ht (hin t (Zh ..)) dp (by omega) (by omega)
   refine⟨T',bc',G',?_,g2,by simp only[VB,if_pos hq];exact g3⟩
   rw[hq]at hcc
   simp only[tmB,Zx,XT]at g1
   rw[Xa]
   simp only[tmB,EVS,EVN,EVF,reduceIte,Nat.reduceEqDiff,Nat.reduceLeDiff,Nat.reduceLT,Nat.reduceAdd,x58_1,hlt,ip,XT,Xb,m8,n8,tm,tn,dn,XN,XP,hmd,MDS,hcc,f1]
   exact g1
  ·obtain⟨T',bc',G',g1,g2,g3⟩:=ih (fun s hs=>hin s (Zc _ hs)) (i+1) k _ b (G++[⟨false,0,12,[.p (.bool x)::.p y::.p (.bool z)::.p u::moD t.2],false,63⟩]) hb hbm dp (by omega) (by omega)
   refine⟨T',bc',G',?_,g2,by simp only[VB,if_neg hq];exact g3⟩
   have hlf:ltF (.ofNat 0) (Wd o t.2 b.2)=false:=by
    rcases Vm o t.2 b.2 with e|e|e
    ·exact absurd e hq
    ·rw[e];rfl
    ·rw[e];rfl
   simp only[tmB,Zx,XT]at g1
   rw[Xa]
   simp only[tmB,EVS,EVN,EVF,reduceIte,Nat.reduceEqDiff,Nat.reduceLeDiff,Nat.reduceAdd,x58_1,hlt,ip,XT,Xb,m8,n8,tm,tn,XN,XP,hmd,MDS,hcc,hlf,f1]
   exact g1
theorem Ret.ofEx {B:Base}{f:Nat}{a:List PV}{xf:XFunc}{p:PV->Prop}(hx:B.X f=some xf)(h:Evt B fun E K=>∃r,Ux E K xf a=some r/\p r):∃r,Ret B f a r/\p r:=by
 obtain⟨N,hN⟩:=h
 obtain⟨r,h1,h2⟩:=hN N N (Zg _) (Zg _)
 refine⟨r,⟨N,N+1,?_⟩,h2⟩
 show(match B.X f with
  |some xf=>Ux (B.E N N) N xf a
  |none=>(B.E N N).pure f a)=some r
 rw[hx];exact h1
theorem plead_ret {B:Base}(hB:Std B){lp lo:PL}{o:List (List Int)}(so:IsO lo o)(ho:Tj o)(hol:o.length<1000000){t:Qm}{ts:List Qm}(hp:PQ lp (t::ts))(hl:ts.length<100000):∃c,Ret B 58 [.one lp,.one lo] (.tup [.agg c,.one (.bool true)])/\VT c (VB o t ts):=by
 have hmk:=hp.mok
 obtain⟨es,sl,hp⟩:=hp
 cases hp with
 |@cons ch t rest ts ht h=>
  have hlen:=h.length
  have hc:=pcmpR_evt hB so ho hol hmk
  have elp:=Sl.WL sl
  obtain⟨r,h1,c,rfl,h2⟩:=Ret.ofEx (p:=fun r=>∃c,r=.tup [.agg c,.one (.bool true)]/\VT c (VB o t ts)) (hB.tab 58 _ rfl) (a:=[.one lp,.one lo]) ((hc.and (hB.evt.and (Evt.ge (rest.length+2)))).mono fun E K ⟨hcr,hmd,hK⟩=>by
   obtain⟨T',bc',G',g1,⟨g2,g3⟩,g4⟩:=plead_loop (K:=K) hmd (all:=rest) (by omega) hcr h (fun s hs=>Zc _ hs) 0 K ch t [] ht (Zh ..) rfl (by omega) (by omega)
   refine⟨_,?_,bc',rfl,g4⟩
   have hes:∀d∈rest,d.length=12:=by
    intro d hd
    obtain⟨i,hi⟩:=Z2.1 hd
    have :i<ts.length:=by rw[<-hlen];exact(Zb.1 hi).1
    obtain⟨d',hd',hq⟩:=h.get i _ (Zf this)
    rw[hi]at hd'
    obtain rfl:=Option.some.inj hd'
    obtain⟨a,b,c,e,rfl,-,hq⟩:=hq
    simp[Xt,hq.1]
   obtain⟨x,y,z,u,rfl,-,hm⟩:=ht
   obtain⟨x2,y2,z2,u2,rfl,-,hn⟩:=g4
   have m8:=hm.1
   have n8:=hn.1
   have ip:=fun(hh:HF) (kd:IntKind)=>sl.idx (h:=hh) (k:=kd) (sz:=12) (i:=0) rfl (by simp[Xt,m8])
   have tm:(moD t.2).take 8=moD t.2:=Ze (by rw[Xb];omega)
   have tn:(moD (VB o t ts).2).take 8=moD (VB o t ts).2:=Ze (by rw[Xb];omega)
   have dm:(moD t.2).drop 8=[]:=Zp (by rw[Xb];omega)
   have dn:(moD (VB o t ts).2).drop 8=[]:=Zp (by rw[Xb];omega)
   simp only[tmB,Zx,XT]at g1
   have hne:¬rest.length+1=0:=by omega
   have hsl:=fun hh=>W6 (c:=.bool x::y::.bool z::u::mo t.2) hes hh
   have hl1:=sl.len
   rw[elp]at ip hl1⊢
   simp only[EVS,EVN,EVF,reduceIte,Nat.reduceEqDiff,Nat.reduceLeDiff,Nat.reduceAdd,x58,hl1,Sl.lst.len,hsl,hne,ip,XT,Xb,m8,n8,tm,tn,XN,g1,g2,g3])
  exact⟨c,h1,h2⟩
end Go.Proofs.YtefpgecinlekpaaGreat
namespace Go.Num
def WI (o:List (List Int)):List Qm->Option Qm
 |[]=>none
 |t::ts=>some (VB o t ts)
def XZ (t s:Qm):Qm:=(t.1 / s.1,Wv t.2 s.2)
end Go.Num
namespace Go.Proofs.YtefpgecinlekpaaGreat
open Go.Ev Go.Num
abbrev PQs (ls:List PL)(fs:List (List Qm)):Prop:=All2 PQ ls fs
def XD (ls:List PL):List (List PL):=ls.map fun p=>[p]
theorem Ud {ls:List PL}{i:Nat}{p:PL}(h:ls[i]? =some p):(XD ls)[i]? =some [p]:=by simp[XD,h]
theorem Ww (ls:List PL):(XD ls).length=ls.length:=by simp[XD]
end Go.Proofs.YtefpgecinlekpaaGreat
namespace Go.Proofs.YtefpgecinlekpaaGreat
open Go.Ev Go.Num
def SzL (ts:List Qm):Prop:=Sz ts/\ts.length<50000
theorem VT.eight {c:List PL}{t:Qm}(h:VT c t):∃t1 t2 t3 t4,c=t1::t2::t3::t4::mo t.2:=by
 obtain⟨a,b,d,e,rfl,-,-⟩:=h;exact⟨_,_,_,_,rfl⟩
theorem VT.mok8 {c:List PL}{t:Qm}(h:VT c t):XF t.2:=by
 obtain⟨a,b,d,e,-,-,h⟩:=h;exact h
end Go.Proofs.YtefpgecinlekpaaGreat
