/- Polynomials out of raw numbers: one term. -/
import Derived.Test.YtefpgecinlekpaaGreatGrB
set_option maxHeartbeats 16000000
set_option maxRecDepth 100000
namespace Go.Proofs.YtefpgecinlekpaaGreat
open Go.Ev Go.Num
theorem wrap_in {z:Int}(h1: -9223372036854775808<=z)(h2:z<9223372036854775808):Xd .i64 z=z:=by
 rw[U1]
 simp[IntKind.wrap,IntKind.bits,IntKind.signed]
 omega
theorem abs_ret {B:Base}(hB:Std B){a:Int}(h1: -128<=a)(h2:a<=127):Ret B 71 [.one (.int .i8 a)] (.one (.int .i64 (.ofNat a.natAbs))):=by
 refine Ret.of (hB.tab _ _ rfl) (hB.evt.mono fun E K hmd=> ?_)
 cases a with
 |ofNat n=>
  have f1:Xd .i64 (.ofNat n)=.ofNat n:=wrap_in (by omega) (by omega)
  have f2:¬n<0:=by omega
  simp only[EVS,EVN,reduceIte,Nat.reduceEqDiff,Nat.reduceLeDiff,x71,f1,f2,Int.natAbs]
 |negSucc n=>
  have f1:Xd .i64 (.negSucc n)=.negSucc n:=wrap_in (by omega) (by omega)
  have f3:(0:Int)-Int.negSucc n=.ofNat (n+1):=by simp only[ZH];omega
  have f2:Xd .i64 (.ofNat (n+1))=.ofNat (n+1):=wrap_in (by simp only[ZH];omega) (by simp only[ZH];omega)
  have f4:opUn .neg [.one (.p (.int .i64 (.negSucc n)))]=some ⟨.one (.p (.int .i64 (.ofNat (n+1)))),[],[],[]⟩:=by
   show some (Res.pure (.one (.p (.int .i64 (Xd .i64 (0-.negSucc n))))))=_
   rw[f3,f2];rfl
  simp only[EVS,EVN,reduceIte,Nat.reduceEqDiff,Nat.reduceLeDiff,x71,f1,f4,Int.natAbs]
def e1 (d:Nat)(a:Int):Nat:=a.natAbs%(d+1)
def e2 (d:Nat)(a b:Int):Nat:=b.natAbs%(d-e1 d a+1)
def e3 (d:Nat)(a b c:Int):Nat:=c.natAbs%(d-e1 d a-e2 d a b+1)
def mk3 (d:Nat)(a b c:Int):List Nat:=[e1 d a,e2 d a b,e3 d a b c,0,0,0,0,0]
theorem e1_le (d:Nat)(a:Int):e1 d a<=d:=by unfold e1;have:=ZN a.natAbs (show 0<d+1 by omega);omega
theorem e2_le (d:Nat)(a b:Int):e2 d a b<=d:=by unfold e2;have:=ZN b.natAbs (show 0<d-e1 d a+1 by omega);omega
theorem e2_le' (d:Nat)(a b:Int):e2 d a b<=d-e1 d a:=by unfold e2;have:=ZN b.natAbs (show 0<d-e1 d a+1 by omega);omega
theorem e3_le (d:Nat)(a b c:Int):e3 d a b c<=d-e1 d a-e2 d a b:=by unfold e3;have:=ZN c.natAbs (show 0<d-e1 d a-e2 d a b+1 by omega);omega
def raw5 (a0 a1 a2 a3 a4:Int):List PL:=[.int .i8 a0,.int .i8 a1,.int .i8 a2,.int .i8 a3,.int .i8 a4]
abbrev moB (m:List Nat):Blk:=⟨false,0,8,[moD m],false,51⟩
theorem inner_go {E:Oracle}{K:Nat}(hmd:E.mode=md){R:PL}{rows:List (List PL)}(hR:Sl R rows){d tm i:Nat}{a0 a1 a2 a3 a4:Int}(hrow:rows[i]? =some (raw5 a0 a1 a2 a3 a4))(hd:d<100)
  (h1:E.pure 71 [.one (.int .i8 a1)]=some (.one (.int .i64 (.ofNat a1.natAbs)))) (h2:E.pure 71 [.one (.int .i8 a2)]=some (.one (.int .i64 (.ofNat a2.natAbs)))) (h3:E.pure 71 [.one (.int .i8 a3)]=some (.one (.int .i64 (.ofNat a3.natAbs)))) {o:DV} (k:Nat) (G:List Blk) (t:Nat):
  ∃T',Xa E K 0 [1,2,3,4,9,10,11,12,13] x26_1 (k+4) ⟨[(1,.one (.p (.int .i64 (.ofNat 3)))),(2,.one (.p (.int .i64 (.ofNat d)))),(3,.one (.p (.int .i64 (.ofNat tm)))),(4,.one (.ptr 0 0 0 0)),(9,o),(10,.one (.p (.int .i64 (.ofNat i)))),(11,.one (.ptr (G.length+1) 0 0 0)),(12,.one (.p (.int .i64 (.ofNat d)))),(13,.one (.p (.int .i64 (.ofNat 0))))],⟨false,0,1,[[.p R]],false,t⟩::(G++[moB zM])⟩=
   some (.exit 2,⟨T',⟨false,0,1,[[.p R]],false,t⟩::(G++[moB (mk3 d a1 a2 a3)])⟩)/\Xf T' 1=some (.one (.p (.int .i64 (.ofNat 3))))/\Xf T' 2=some (.one (.p (.int .i64 (.ofNat d))))/\Xf T' 3=some (.one (.p (.int .i64 (.ofNat tm))))/\Xf T' 4=some (.one (.ptr 0 0 0 0))/\Xf T' 9=some o/\Xf T' 10=some (.one (.p (.int .i64 (.ofNat i))))/\Xf T' 11=some (.one (.ptr (G.length+1) 0 0 0)):=by
 have hidx:=fun(hh:HF) (kd:IntKind)=>hR.idx (h:=hh) (k:=kd) (sz:=5) hrow rfl
 have hidx':∀(hh:HF) (kd:IntKind),WH 5 hh [.one (.p R),.one (.p (.int kd (.ofNat i)))]=some ⟨.one (.p (.ref [.int .i8 a0,.int .i8 a1,.int .i8 a2,.int .i8 a3,.int .i8 a4])),[],[],[]⟩:=hidx
 have l1:=e1_le d a1
 have l2:=e2_le d a1 a2
 have w0:Xd .i64 (.ofNat 1)=.ofNat 1:=rfl
 have w2:Xd .i64 (.ofNat 2)=.ofNat 2:=rfl
 have f1:Xd .i64 (.ofNat (d+1))=.ofNat (d+1):=wrap_i64 (by omega)
 have f2:Xd .i64 (.ofNat (e1 d a1))=.ofNat (e1 d a1):=wrap_i64 (by omega)
 have f3:Xd .i64 (Int.ofNat d-Int.ofNat (e1 d a1))=.ofNat (d-e1 d a1):=XI l1 (by omega)
 have f4:Xd .i64 (.ofNat (d-e1 d a1+1))=.ofNat (d-e1 d a1+1):=wrap_i64 (by omega)
 have f5:Xd .i64 (Int.ofNat (d-e1 d a1)-Int.ofNat (e2 d a1 a2))=.ofNat (d-e1 d a1-e2 d a1 a2):=by
  refine XI ?_ (by omega)
  unfold e2;have:=ZN a2.natAbs (show 0<d-e1 d a1+1 by omega);omega
 have l3:=e3_le d a1 a2 a3
 have l2':=e2_le' d a1 a2
 have w3:Xd .i64 (.ofNat 3)=.ofNat 3:=rfl
 have f6:Xd .i64 (.ofNat (d-e1 d a1-e2 d a1 a2+1))=.ofNat (d-e1 d a1-e2 d a1 a2+1):=wrap_i64 (by omega)
 have f7:Xd .i64 (Int.ofNat (d-e1 d a1-e2 d a1 a2)-Int.ofNat (e3 d a1 a2 a3))=.ofNat (d-e1 d a1-e2 d a1 a2-e3 d a1 a2 a3):=XI l3 (by omega)
 have m3:a3.natAbs%(d-e1 d a1-e2 d a1 a2+1)=e3 d a1 a2 a3:=rfl
 have m1:a1.natAbs%(d+1)=e1 d a1:=rfl
 have m2:a2.natAbs%(d-e1 d a1+1)=e2 d a1 a2:=rfl
 apply ex1
 ·rw[Xa]
  simp only[EVS,EVG,EVN,EVF,reduceIte,Nat.reduceEqDiff,Nat.reduceLeDiff,Nat.reduceLT,Nat.reduceAdd,x26_1,hidx',hmd,MDS,h1,w0,f1,f3,m1,zM,moD,Yd,Zr]
  rw[Xa]
  simp only[EVS,EVG,EVN,EVF,reduceIte,Nat.reduceEqDiff,Nat.reduceLeDiff,Nat.reduceLT,Nat.reduceAdd,hidx',hmd,MDS,h2,w2,f4,f5,m2,Yd,Zr]
  rw[Xa]
  simp only[EVS,EVG,EVN,EVF,reduceIte,Nat.reduceEqDiff,Nat.reduceLeDiff,Nat.reduceLT,Nat.reduceAdd,hidx',hmd,MDS,h3,w3,f6,f7,m3,Yd,Zr]
  rw[Xa]
  simp only[EVS,EVN,EVF,reduceIte,Nat.reduceEqDiff,Nat.reduceLT]
  rfl
 ·simp only[EVS,reduceIte,Nat.reduceEqDiff,and_self]
def rowZ (a0:Int):Int:=Int.tmod a0 4
theorem rowZ_bd (a0:Int):(rowZ a0).natAbs<=3:=by
 unfold rowZ
 have:=Int.tmod_lt_of_pos a0 (show(0:Int)<4 by decide)
 have:=Int.lt_tmod_of_pos a0 (show(0:Int)<4 by decide)
 omega
inductive MadeR (E:Oracle)(d:Nat):List (List PL)->PL->PL->Prop
 |nil {r:PL}:MadeR E d [] r r
 |cons {a0 a1 a2 a3 a4:Int} {c1 c2 c3 c4 q1 q2 q3 q4 s r rf:PL} {r2:List (List PL)} {rows:List (List PL)} (h1:E.pure 71 [.one (.int .i8 a1)]=some (.one (.int .i64 (.ofNat a1.natAbs)))) (h2:E.pure 71 [.one (.int .i8 a2)]=some (.one (.int .i64 (.ofNat a2.natAbs)))) (h2b:E.pure 71 [.one (.int .i8 a3)]=some (.one (.int .i64 (.ofNat a3.natAbs))))
   (h3:E.pure 37 [.one (.int .i64 (rowZ a0))]=some (.agg [c1,c2,c3,c4])) (h4:E.pure 37 [.one (.int .i64 (.ofNat 1))]=some (.agg [q1,q2,q3,q4]))
   (h5:E.pure 36 [.agg [c1,c2,c3,c4],.one (.lst [q1::q2::q3::q4::mo (mk3 d a1 a2 a3)])]=some (.one s)) (h6:E.pure 28 [.one r,.one s]=some (.one (.lst r2))) (h:MadeR E d rows (.lst r2) rf):
   MadeR E d (raw5 a0 a1 a2 a3 a4::rows) r rf
theorem rem4 (a:Int):V0 .i8 a (.ofNat 4)=some (.p (.int .i8 (rowZ a))):=rfl
theorem made_go {E:Oracle}{K:Nat}(hmd:E.mode=md){R:PL}{all:List (List PL)}(hR:Sl R all){d tm:Nat}(hd:d<100)(htm:tm<1000)(hK:4<=K)(t:Nat):∀(rest:List (List PL)) (r rf:PL),MadeR E d rest r rf->
  ∀(i k:Nat) (G:List Blk),(all.take tm).drop i=rest->i+rest.length=(all.take tm).length->rest.length<k->
  ∃T' G',Xa E K 0 [1,2,3,4,9,10] x26_2 k ⟨[(1,.one (.p (.int .i64 (.ofNat 3)))),(2,.one (.p (.int .i64 (.ofNat d)))),(3,.one (.p (.int .i64 (.ofNat tm)))),(4,.one (.ptr 0 0 0 0)),(9,.one (.p r)),(10,.one (.p (.int .i64 (.ofNat i))))],⟨false,0,1,[[.p R]],false,t⟩::G⟩=
   some (.exit 0,⟨T',⟨false,0,1,[[.p R]],false,t⟩::G'⟩)/\Xf T' 9=some (.one (.p rf)):=by
 intro rest r rf h
 induction h with
 |@nil r=>
  intro i k G _ hi hk
  obtain⟨k,rfl⟩:∃k',k=k'+1:=⟨k-1,by omega⟩
  simp only[Zw,Yu,ZK]at hi
  by_cases hlt:i<all.length
  ·have h2:¬i<tm:=by omega
   apply ex2
   ·rw[Xa]
    simp only[EVS,EVN,Zr,reduceIte,Nat.reduceEqDiff,x26_2,hR.len,hlt,h2]
    rfl
   ·simp only[EVS,reduceIte,Nat.reduceEqDiff]
  ·skip
   apply ex2
   ·rw[Xa]
    simp only[EVS,EVN,Zr,reduceIte,Nat.reduceEqDiff,x26_2,hR.len,hlt]
    rfl
   ·simp only[EVS,reduceIte,Nat.reduceEqDiff]
 |@cons a0 a1 a2 a3 a4 c1 c2 c3 c4 q1 q2 q3 q4 s r rf r2 rows h1 h2 h2b h3 h4 h5 h6 h ih=>
  intro i k G hdr hi hk
  obtain⟨k,rfl⟩:∃k',k=k'+1:=⟨k-1,by omega⟩
  simp only[Zi,ZK]at hi hk
  have hlt:i<all.length:=by omega
  have hlt2:i<tm:=by omega
  obtain⟨gq,dq⟩:=Xq hdr
  have grow:all[i]? =some (raw5 a0 a1 a2 a3 a4):=by rw[Z7,if_pos hlt2]at gq;exact gq
  have hidx:=fun(hh:HF) (kd:IntKind)=>hR.idx (h:=hh) (k:=kd) (sz:=5) grow rfl
  have hidx':∀(hh:HF) (kd:IntKind),WH 5 hh [.one (.p R),.one (.p (.int kd (.ofNat i)))]=some ⟨.one (.p (.ref [.int .i8 a0,.int .i8 a1,.int .i8 a2,.int .i8 a3,.int .i8 a4])),[],[],[]⟩:=hidx
  obtain⟨K',rfl⟩:∃K',K=K'+4:=⟨K-4,by omega⟩
  obtain⟨T1,i1,i2,i3,i4,i5,i6,i7,i8⟩:=inner_go (K:=K'+4) (d:=d) (tm:=tm) hmd hR grow hd h1 h2 h2b (o:=.one (.p r)) K' G t
  have f1:Xd .i64 (.ofNat (i+1))=.ofNat (i+1):=wrap_i64 (by omega)
  have f2:Xd .i64 (rowZ a0)=rowZ a0:=by have:=rowZ_bd a0;exact wrap_in (by omega) (by omega)
  have hm8:(mk3 d a1 a2 a3).length=8:=rfl
  have t1:(moD (mk3 d a1 a2 a3)).take 8=moD (mk3 d a1 a2 a3):=rfl
  have d1:(moD (mk3 d a1 a2 a3)).drop 8=[]:=rfl
  generalize hmk:mk3 d a1 a2 a3=mm at i1 h5 hm8 t1 d1
  simp only[moB,zM,moD,Zx,ZZ]at i1
  have i1:_=some (Ex.exit 2,(⟨T1,⟨false,0,1,[[.p R]],false,t⟩::(G++[⟨false,0,8,[moD mm],false,51⟩])⟩:St)):=i1
  have scl:PL.scalar (.lst r2)=false:=rfl
  cases hsc:s.scalar with
  |true=>
   rw[Xa]
   simp only[EVS,EVH,EVG,EVN,EVF,reduceIte,Nat.reduceEqDiff,Nat.reduceLeDiff,Nat.reduceLT,Nat.reduceAdd,x26_2,hR.len,hlt,hlt2,hidx',hmd,MDS,i1,i2,i3,i4,i5,i6,i7,i8,Yd,Zr,rem4,f1,f2,h3,h4,h5,h6,hm8,t1,Xb,XN,XP,hsc,scl,Zq,ite_self]
   exact ih (i+1) k _ dq (by rw[ZK];omega) (by omega)
  |false=>
   rw[Xa]
   simp only[EVS,EVH,EVG,EVN,EVF,reduceIte,Nat.reduceEqDiff,Nat.reduceLeDiff,Nat.reduceLT,Nat.reduceAdd,x26_2,hR.len,hlt,hlt2,hidx',hmd,MDS,i1,i2,i3,i4,i5,i6,i7,i8,Yd,Zr,rem4,f1,f2,h3,h4,h5,h6,hm8,t1,Xb,XN,XP,hsc,scl,Zq,ite_self]
   exact ih (i+1) k _ dq (by rw[ZK];omega) (by omega)
theorem made_first {E:Oracle}{K:Nat}(hmd:E.mode=md){R:PL}{all:List (List PL)}(hR:Sl R all){d tm:Nat}(hd:d<100)(htm:tm<1000)(hK:4<=K)(t:Nat){rest:List (List PL)}{rf:PL}(h:MadeR E d rest (.lst []) rf)(hne:rest≠[])(hdr:all.take tm=rest)(hk:rest.length<K):
  ∃T' G',Xa E K 0 [1,2,3,4,9,10] x26_2 K ⟨[(1,.one (.p (.int .i64 (.ofNat 3)))),(2,.one (.p (.int .i64 (.ofNat d)))),(3,.one (.p (.int .i64 (.ofNat tm)))),(4,.one (.ptr 0 0 0 0)),(9,.one (.own 1 0 0 0)),(10,.one (.p (.int .i64 (.ofNat 0))))],[⟨false,0,1,[[.p R]],false,t⟩,⟨false,0,12,[],false,63⟩]⟩=
   some (.exit 0,⟨T',⟨false,0,1,[[.p R]],false,t⟩::G'⟩)/\Xf T' 9=some (.one (.p rf)):=by
 cases h with
 |nil=>exact absurd rfl hne
 |@cons a0 a1 a2 a3 a4 c1 c2 c3 c4 q1 q2 q3 q4 s _ _ r2 rows h1 h2 h2b h3 h4 h5 h6 h=>
 obtain⟨k,rfl⟩:∃k',K=k'+4:=⟨K-4,by omega⟩
 have hll:=congrArg List.length hdr
 simp only[Zi,ZK]at hll hk
 have hlt:0<all.length:=by omega
 have hlt2:0<tm:=by omega
 have hdr0:(all.take tm).drop 0=raw5 a0 a1 a2 a3 a4::rows:=by rw[Yh];exact hdr
 obtain⟨gq,dq⟩:=Xq hdr0
 have grow:all[0]? =some (raw5 a0 a1 a2 a3 a4):=by rw[Z7,if_pos hlt2]at gq;exact gq
 have hidx:=fun(hh:HF) (kd:IntKind)=>hR.idx (h:=hh) (k:=kd) (sz:=5) grow rfl
 have hidx':∀(hh:HF) (kd:IntKind),WH 5 hh [.one (.p R),.one (.p (.int kd (.ofNat 0)))]=some ⟨.one (.p (.ref [.int .i8 a0,.int .i8 a1,.int .i8 a2,.int .i8 a3,.int .i8 a4])),[],[],[]⟩:=hidx
 obtain⟨T1,i1,i2,i3,i4,i5,i6,i7,i8⟩:=inner_go (K:=k+4) (d:=d) (tm:=tm) hmd hR grow hd h1 h2 h2b (o:=.one (.own 1 0 0 0)) k [⟨false,0,12,[],false,63⟩] t
 have f1:Xd .i64 (.ofNat (0+1))=.ofNat (0+1):=rfl
 have f1':Xd .i64 (.ofNat 1)=.ofNat 1:=rfl
 have f2:Xd .i64 (rowZ a0)=rowZ a0:=by have:=rowZ_bd a0;exact wrap_in (by omega) (by omega)
 have hm8:(mk3 d a1 a2 a3).length=8:=rfl
 have t1:(moD (mk3 d a1 a2 a3)).take 8=moD (mk3 d a1 a2 a3):=rfl
 have d1:(moD (mk3 d a1 a2 a3)).drop 8=[]:=rfl
 generalize hmk:mk3 d a1 a2 a3=mm at i1 h5 hm8 t1 d1
 simp only[moB,zM,moD,Zx,ZZ,Zi,Zw,Nat.reduceAdd,ZR,ZL]at i1 i8
 have i1:_=some (Ex.exit 2,(⟨T1,[⟨false,0,1,[[.p R]],false,t⟩,⟨false,0,12,[],false,63⟩,⟨false,0,8,[moD mm],false,51⟩]⟩:St)):=i1
 have scl:PL.scalar (.lst r2)=false:=rfl
 cases hsc:s.scalar with
 |true=>
  rw[Xa]
  simp(decide:=true)only[EVS,EVH,EVN,reduceIte,Nat.reduceAdd,x26_2,hR.len,hlt,hlt2,hidx',hmd,MDS,i1,i2,i3,i4,i5,i6,i7,i8,Yd,rem4,f1,f2,h3,h4,h5,h6,hm8,t1,Xb,XN,XP,hsc,scl,ite_self]
  exact made_go (K:=k+4) hmd hR hd htm hK t rows _ _ h 1 _ _ dq (by rw[ZK];omega) (by omega)
 |false=>
  rw[Xa]
  simp(decide:=true)only[EVS,EVH,EVN,reduceIte,Nat.reduceAdd,x26_2,hR.len,hlt,hlt2,hidx',hmd,MDS,i1,i2,i3,i4,i5,i6,i7,i8,Yd,rem4,f1,f2,h3,h4,h5,h6,hm8,t1,Xb,XN,XP,hsc,scl,ite_self]
  exact made_go (K:=k+4) hmd hR hd htm hK t rows _ _ h 1 _ _ dq (by rw[ZK];omega) (by omega)
end Go.Proofs.YtefpgecinlekpaaGreat
namespace Go.Num
def Dg3 (d:Nat)(m:List Nat):Prop:=∃a b c,m=[a,b,c,0,0,0,0,0]/\a+b+c<=d
theorem Dg3.l8 {d:Nat}{m:List Nat}(h:Dg3 d m):L8 m:=by obtain⟨a,b,c,rfl,-⟩:=h;rfl
theorem Dg3.mono {d e:Nat}{m:List Nat}(h:Dg3 d m)(k:d<=e):Dg3 e m:=by obtain⟨a,b,c,rfl,hd⟩:=h;exact⟨a,b,c,rfl,by omega⟩
structure Gen (d c n:Nat)(ts:List Qm):Prop where
 pl:Pl ts
 deg:∀t∈ts,Dg3 d t.2
 cf:∀t∈ts,∃z:Int,t.1=(z:Rat)/\z.natAbs<=c
 len:ts.length<=n
theorem Gen.nil (d c n:Nat):Gen d c n []:=⟨Pl.nil,(fun _ h=>by cases h),(fun _ h=>by cases h),Zr _⟩
theorem Gen.mono {d c n d' c' n':Nat}{ts:List Qm}(h:Gen d c n ts)(hd:d<=d')(hc:c<=c')(hn:n<=n'):Gen d' c' n' ts:=
 ⟨h.pl,fun t ht=>(h.deg t ht).mono hd,fun t ht=>by obtain⟨z,h1,h2⟩:=h.cf t ht;exact⟨z,h1,by omega⟩,by have:=h.len;omega⟩
theorem Sv:∀(n:Nat) {ts us:List Qm} {x:Qm},ts.length+us.length<=n->Q8 ts->Q8 us->x∈V3 ts us->x∈ts\/x∈us\/∃t∈ts,∃u∈us,t.2=x.2/\u.2=x.2/\x.1=t.1+u.1
 |_,[],us,x,_,_,_,h=>by rw[We]at h;exact .inr (.inl h)
 |_,t::ts,[],x,_,_,_,h=>by rw[WJ]at h;exact .inl h
 |0,t::ts,u::us,x,hn,_,_,_=>by simp at hn
 |n+1,t::ts,u::us,x,hn,h1,h2,h=>by
  simp only[Zi]at hn
  rw[US]at h
  split at h
  ·rcases Zk.1 h with rfl|h
   ·exact .inl (Zh ..)
   ·rcases Sv n (by simp;omega) h1.tail h2 h with h|h|⟨a,ha,b,hb,e⟩
    ·exact .inl (Zc _ h)
    ·exact .inr (.inl h)
    ·exact .inr (.inr ⟨a,Zc _ ha,b,hb,e⟩)
  ·split at h
   ·rcases Zk.1 h with rfl|h
    ·exact .inr (.inl (Zh ..))
    ·rcases Sv n (by simp;omega) h1 h2.tail h with h|h|⟨a,ha,b,hb,e⟩
     ·exact .inl h
     ·exact .inr (.inl (Zc _ h))
     ·exact .inr (.inr ⟨a,ha,b,Zc _ hb,e⟩)
   ·rename_i a b
    have e:XW t.2 u.2=.ofNat 0:=by
     rcases WB t.2 u.2 with q|q|q
     ·exact absurd q a
     ·exact absurd q b
     ·exact q
    have e2:=Uh (by rw[h1.head,h2.head]) e
    have rec_:x∈V3 ts us->_:=fun h=>Sv n (by omega) h1.tail h2.tail h
    have up:(x∈ts\/x∈us\/∃t∈ts,∃u∈us,t.2=x.2/\u.2=x.2/\x.1=t.1+u.1)->x∈t::ts\/x∈u::us\/∃a∈t::ts,∃b∈u::us,a.2=x.2/\b.2=x.2/\x.1=a.1+b.1:=fun h=>by
     rcases h with h|h|⟨a,ha,b,hb,e⟩
     ·exact .inl (Zc _ h)
     ·exact .inr (.inl (Zc _ h))
     ·exact .inr (.inr ⟨a,Zc _ ha,b,Zc _ hb,e⟩)
    split at h
    ·exact up (rec_ h)
    ·rcases Zk.1 h with rfl|h
     ·exact .inr (.inr ⟨t,Zh ..,u,Zh ..,rfl,e2.symm,rfl⟩)
     ·exact up (rec_ h)
theorem Pl.add {ts us:List Qm}(h:Pl ts)(k:Pl us):Pl (V3 ts us):=⟨dc_addQ _ (Zg _) h.q8 k.q8 h.dc k.dc,q8_addQ h.q8 k.q8⟩
theorem Gen.add {d c n c' n':Nat}{ts us:List Qm}(h:Gen d c n ts)(k:Gen d c' n' us):Gen d (c+c') (n+n') (V3 ts us):=by
 refine⟨h.pl.add k.pl,fun t ht=> ?_,fun t ht=> ?_,?_⟩
 ·rcases Sv _ (Zg _) h.pl.q8 k.pl.q8 ht with h1|h1|⟨a,ha,b,hb,e1,e2,e3⟩
  ·exact h.deg t h1
  ·exact k.deg t h1
  ·rw[<-e1];exact h.deg a ha
 ·rcases Sv _ (Zg _) h.pl.q8 k.pl.q8 ht with h1|h1|⟨a,ha,b,hb,e1,e2,e3⟩
  ·obtain⟨z,h2,h3⟩:=h.cf t h1;exact⟨z,h2,by omega⟩
  ·obtain⟨z,h2,h3⟩:=k.cf t h1;exact⟨z,h2,by omega⟩
  ·obtain⟨z,h2,h3⟩:=h.cf a ha
   obtain⟨y,h4,h5⟩:=k.cf b hb
   exact⟨z+y,by rw[e3,h2,h4,Rat.intCast_add],by omega⟩
 ·have:=addQ_len _ ts us (Zg _)
  have:=h.len
  have:=k.len
  omega
end Go.Num
namespace Go.Proofs.YtefpgecinlekpaaGreat
open Go.Ev Go.Num
theorem Sq.int {z:Int}(h:z.natAbs<4294967296):Sq (z:Rat):=by
 refine Sq.of (k:=1) (by omega) ?_ ?_
 ·rw[Rat.num_intCast];simpa using h
 ·rw[Rat.den_intCast];decide
theorem gen_sz {d c n:Nat}{ts:List Qm}(h:Gen d c n ts)(hc:c<4294967296):Sz ts:=fun t ht=>by
 obtain⟨z,h1,h2⟩:=h.cf t ht
 rw[h1];exact Sq.int (by omega)
theorem mk3_dg (d:Nat)(a b c:Int):Dg3 d (mk3 d a b c):=by
 have:=e1_le d a
 have:=e2_le' d a b
 have:=e3_le d a b c
 exact⟨_,_,_,rfl,by omega⟩
theorem dg3_ok {d:Nat}(hd:d<=65535){m:List Nat}(h:Dg3 d m):XF m:=by
 obtain⟨a,b,c,rfl,h⟩:=h
 refine⟨rfl,fun e he=> ?_⟩
 simp only[Zk,Yk,or_false]at he
 rcases he with rfl|rfl|rfl|rfl|rfl|rfl|rfl|rfl<;>omega
def RawRow (c:List PL):Prop:=∃a0 a1 a2 a3 a4:Int,c=raw5 a0 a1 a2 a3 a4/\(-128<=a0/\a0<=127)/\(-128<=a1/\a1<=127)/\(-128<=a2/\a2<=127)/\(-128<=a3/\a3<=127)
def Tt (R:PL):Prop:=∃rs,Sl R rs/\∀c∈rs,RawRow c
theorem madeR_evt {B:Base}(hB:Std B){d:Nat}(hd:d<100):∀{rows:List (List PL)},(∀c∈rows,RawRow c)->∀{r:PL} {acc:List Qm} {c n:Nat},PQ r acc->Gen d c n acc->c+rows.length*3<4294967296->n+rows.length<100000->
  ∃rf fs,(Evt B fun E _=>MadeR E d rows r rf)/\PQ rf fs/\Gen d (c+rows.length*3) (n+rows.length) fs
 |[],_,r,acc,c,n,hr,hg,_,_=>⟨r,acc,Evt.of fun _ _=>.nil,hr,by simpa using hg⟩
 |row::rows,hrow,r,acc,c,n,hr,hg,hc,hn=>by
  obtain⟨a0,a1,a2,a3,a4,rfl,-,b1,b2,b3⟩:=hrow row (Zh ..)
  have hz:=rowZ_bd a0
  simp only[Zi,ZJ,Z9]at hc hn⊢
  have g1:=abs_ret hB b1.1 b1.2
  have g2:=abs_ret hB b2.1 b2.2
  have g2b:=abs_ret hB b3.1 b3.2
  obtain⟨cz,g3,hcz⟩:=rWhole_q hB (x:=rowZ a0) (by unfold S31;omega)
  obtain⟨co,g4,hco⟩:=rWhole_q hB (x:=.ofNat 1) (by unfold S31;decide)
  have hdg:=mk3_dg d a1 a2 a3
  have hmo:=dg3_ok (show d<=65535 by omega) hdg
  obtain⟨q1,q2,q3,q4,rfl⟩:=hco.len
  have hl:PQ (.lst [.bool q1::q2::.bool q3::q4::mo (mk3 d a1 a2 a3)]) [(((Int.ofNat 1:Int):Rat),mk3 d a1 a2 a3)]:=⟨_,.lst,.cons (VT.mk hco hmo) .nil⟩
  obtain⟨s,g5,hs⟩:=rscale_q hB hcz (Sq.int (by omega)) hl (fun t ht=>by
   simp only[Zk,Yk,or_false]at ht
   subst ht
   exact Sq.int (z:=1) (by decide)) (by simp)
  have hgs:Gen d 3 1 (if((rowZ a0:Int):Rat)=0 then[]else Wp ((rowZ a0:Int):Rat) [(((Int.ofNat 1:Int):Rat),mk3 d a1 a2 a3)]):=by
   split
   ·exact Gen.nil _ _ _
   ·rename_i h0
    have e1:Wp ((rowZ a0:Int):Rat) [(((Int.ofNat 1:Int):Rat),mk3 d a1 a2 a3)]=[(((rowZ a0:Int):Rat),mk3 d a1 a2 a3)]:=by
     simp only[Wp,Zx,ZZ]
     rw[show((Int.ofNat 1:Int):Rat)=1 from rfl,Rat.mul_one]
    rw[e1]
    refine⟨⟨⟨fun t ht=> ?_,by simp⟩,fun t ht=> ?_⟩,fun t ht=> ?_,fun t ht=> ?_,by simp⟩<;>(simp only[Zk,Yk,or_false]at ht;subst ht)
    ·exact h0
    ·exact hdg.l8
    ·exact hdg
    ·exact⟨rowZ a0,rfl,hz⟩
  have hga:=hg.len
  obtain⟨o,g6,g7⟩:=raddq_ret hB hr hs (gen_sz hg (by omega)) (gen_sz hgs (by omega)) (by omega) (by have:=hgs.len;omega)
  obtain⟨rf,fs,k1,k2,k3⟩:=madeR_evt hB hd (fun c hc=>hrow c (Zc _ hc)) (r:=.lst o) ⟨_,.lst,g7⟩ (hg.add hgs) (by omega) (by omega)
  obtain⟨c1,c2,c3,c4,rfl⟩:=hcz.len
  exact⟨rf,fs,(k1.and (g1.evt.and (g2.evt.and (g2b.evt.and (g3.evt.and (g4.evt.and (g5.evt.and g6.evt))))))).mono fun E K ⟨e0,e1,e2,e2b,e3,e4,e5,e6⟩=>.cons e1 e2 e2b e3 e4 e5 e6 e0,k2,k3.mono (Zg _) (by omega) (by omega)⟩
theorem made_ret {B:Base}(hB:Std B){R:PL}(hR:Tt R){d tm:Nat}(hd:d<100)(htm:tm<1000):
  ∃r ts,Ret B 26 [.agg [R],.one (.int .i64 (.ofNat 3)),.one (.int .i64 (.ofNat d)),.one (.int .i64 (.ofNat tm))] (.one r)/\PQ r ts/\Gen d (tm*3) tm ts:=by
 obtain⟨rs,sR,hrs⟩:=hR
 have h0:PQ (.lst []) []:=⟨[],.lst,.nil⟩
 have hlen:(rs.take tm).length<=tm:=by rw[ZK];omega
 obtain⟨rf,fs,g1,g2,g3⟩:=madeR_evt hB hd (rows:=rs.take tm) (fun c hc=>hrs c (YE hc)) h0 (Gen.nil d 0 0) (by omega) (by omega)
 by_cases hne:rs.take tm=[]
 ·clear g1 g2 g3
  refine⟨.lst [],[],Ret.of (hB.tab _ _ rfl) ((hB.evt.and (Evt.ge 1)).mono fun E K ⟨hmd,hK⟩=> ?_),h0,Gen.nil _ _ _⟩
  obtain⟨K',rfl⟩:∃K',K=K'+1:=⟨K-1,by omega⟩
  have hl0:tm=0\/rs.length=0:=by
   have:=congrArg List.length hne
   simp only[ZK,Zw]at this;omega
  by_cases h1:0<rs.length
  ·have h2:¬0<tm:=by omega
   simp only[EVS,EVN,reduceIte,Nat.reduceEqDiff,Nat.reduceLeDiff,Nat.reduceAdd,Zr,x26,x26_2,Xa,sR.len,h1,h2]
  ·simp only[EVS,EVN,reduceIte,Nat.reduceEqDiff,Nat.reduceLeDiff,Nat.reduceAdd,Zr,x26,x26_2,Xa,sR.len,h1]
 ·refine⟨rf,fs,Ret.of (hB.tab _ _ rfl) ((g1.and (hB.evt.and (Evt.ge (rs.length+tm+4)))).mono fun E K ⟨e1,hmd,hK⟩=> ?_),g2,g3.mono (Zg _) (by omega) (by omega)⟩
  obtain⟨T',G',k1,k2⟩:=made_first (K:=K) hmd sR hd htm (by omega) 24 e1 hne rfl (by rw[ZK];omega)
  simp only[EVS,EVN,reduceIte,Nat.reduceEqDiff,Nat.reduceLeDiff,Nat.reduceAdd,x26,k1,k2]
end Go.Proofs.YtefpgecinlekpaaGreat
