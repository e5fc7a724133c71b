/- Division: divisors. -/
import Derived.Test.YtefpgecinlekpaaGreatQSubB
import Derived.Test.YtefpgecinlekpaaGreatQLead
set_option maxHeartbeats 16000000
set_option maxRecDepth 100000
namespace Go.Proofs.YtefpgecinlekpaaGreat
open Go.Ev Go.Num
abbrev dsB (v:Nat)(ds:List (List PL)):Blk:=⟨false,v,15,pc ds,false,99⟩
def dvC (x y z u:PL)(m:List Nat)(p r:PL)(i:Nat):List PL:=x::y::z::u::(mo m++[p,r,.int .i64 (.ofNat i)])
theorem dvs_skip {E:Oracle}{K k i:Nat}{lo L p:PL}{ls:List PL}(slL:Sl L (XD ls))(hll:ls.length<1000000)(hi:ls[i]? =some p)(sp:Sl p []){d5:DL}(H:List Blk):
  Xa E K 0 [1,5,9,10,11] x63_1 (k+1) ⟨[(1,.one (.p lo)),(5,.one d5),(9,.one (.p L)),(10,.one (.p (.int .i64 (.ofNat ls.length)))),(11,.one (.p (.int .i64 (.ofNat i))))],H⟩=
   Xa E K 0 [1,5,9,10,11] x63_1 k ⟨[(1,.one (.p lo)),(5,.one d5),(9,.one (.p L)),(10,.one (.p (.int .i64 (.ofNat ls.length)))),(11,.one (.p (.int .i64 (.ofNat (i+1)))))],H⟩:=by
 have hlt:i<ls.length:=(Zb.mp hi).1
 have ip:=fun(hh:HF) (kd:IntKind)=>slL.idx (h:=hh) (k:=kd) (sz:=1) (Ud hi) rfl
 have f1:Xd .i64 (.ofNat (i+1))=.ofNat (i+1):=wrap_i64 (by omega)
 have hlen:=sp.len
 rw[Xa]
 simp only[EVS,EVN,reduceIte,Nat.reduceEqDiff,x63_1,hlt,ip,f1,hlen,ZA]
theorem dvs_first {E:Oracle}{K k i:Nat}(hmd:E.mode=md){lo L p x y z u:PL}{m:List Nat}{ls:List PL}{es tl:List (List PL)}(slL:Sl L (XD ls))(hll:ls.length<1000000)(hi:ls[i]? =some p)(sp:Sl p es)(hes:0<es.length)(hm:m.length=8)(h12:∀d∈tl,d.length=12)
  (hdec:E.pure 83 [.one p,.one lo]=some (.one (.lst ((x::y::z::u::mo m)::tl)))):
  ∃J G',Xa E K 0 [1,5,9,10,11] x63_1 (k+1) ⟨[(1,.one (.p lo)),(5,.one (.p .nilS)),(9,.one (.p L)),(10,.one (.p (.int .i64 (.ofNat ls.length)))),(11,.one (.p (.int .i64 (.ofNat i))))],[]⟩=
   Xa E K 0 [1,5,9,10,11] x63_1 k ⟨[(1,.one (.p lo)),(5,.one (.own 1 0 0 1)),(9,.one (.p L)),(10,.one (.p (.int .i64 (.ofNat ls.length)))),(11,.one (.p (.int .i64 (.ofNat (i+1)))))],J::dsB 0 [dvC x y z u m p (.lst tl) i]::G'⟩:=by
 have hlt:i<ls.length:=(Zb.mp hi).1
 have ip:=fun(hh:HF) (kd:IntKind)=>slL.idx (h:=hh) (k:=kd) (sz:=1) (Ud hi) rfl
 have f1:Xd .i64 (.ofNat (i+1))=.ofNat (i+1):=wrap_i64 (by omega)
 have hlen:=sp.len
 have sd:Sl (.lst ((x::y::z::u::mo m)::tl)) ((x::y::z::u::mo m)::tl):=.lst
 have id:=fun(hh:HF) (kd:IntKind)=>sd.idx (h:=hh) (k:=kd) (i:=0) (sz:=12) rfl (by simp[Xt,hm])
 have s1:=W6 (c:=x::y::z::u::mo m) (es:=tl) h12
 have tm:(moD m).take 8=moD m:=Ze (by rw[Xb];omega)
 have dm:(moD m).drop 8=[]:=Zp (by rw[Xb];omega)
 have w0:=Xx m
 obtain⟨m1,m2,m3,m4,m5,m6,m7,m8,rfl⟩:=eight hm
 have han:∀(n:Nat) (c:List DL) (ids:List Nat),X8 99 15 184 n [c] ids=some ⟨.one (.own n 0 0 1),[⟨false,0,15,[c],false,99⟩],[],ids⟩:=fun _ _ _=>rfl
 simp only[mo,Zx,ZZ]at s1 id hdec
 apply Exists.intro;apply Exists.intro
 rw[Xa]
 simp(decide:=true)only[EVS,EVN,EVH,reduceIte,Nat.reduceAdd,x63_1,hlt,ip,f1,hlen,hes,hmd,MDS,hdec,id,s1,han,mo,dvC]
 rfl
theorem dvs_next {E:Oracle}{K k i v:Nat}(hmd:E.mode=md){lo L p x y z u:PL}{m:List Nat}{ls:List PL}{es tl:List (List PL)}(slL:Sl L (XD ls))(hll:ls.length<1000000)(hi:ls[i]? =some p)(sp:Sl p es)(hes:0<es.length)(hm:m.length=8)(h12:∀d∈tl,d.length=12)
  (hdec:E.pure 83 [.one p,.one lo]=some (.one (.lst ((x::y::z::u::mo m)::tl)))) {ds:List (List PL)} (hds:ds.length<1000000) (J:Blk) (G:List Blk):
  ∃G',Xa E K 0 [1,5,9,10,11] x63_1 (k+1) ⟨[(1,.one (.p lo)),(5,.one (.own 1 v 0 ds.length)),(9,.one (.p L)),(10,.one (.p (.int .i64 (.ofNat ls.length)))),(11,.one (.p (.int .i64 (.ofNat i))))],J::dsB v ds::G⟩=
   Xa E K 0 [1,5,9,10,11] x63_1 k ⟨[(1,.one (.p lo)),(5,.one (.own 1 (v+1) 0 (ds.length+1))),(9,.one (.p L)),(10,.one (.p (.int .i64 (.ofNat ls.length)))),(11,.one (.p (.int .i64 (.ofNat (i+1)))))],J::dsB (v+1) (ds++[dvC x y z u m p (.lst tl) i])::G'⟩:=by
 have hlt:i<ls.length:=(Zb.mp hi).1
 have ip:=fun(hh:HF) (kd:IntKind)=>slL.idx (h:=hh) (k:=kd) (sz:=1) (Ud hi) rfl
 have f1:Xd .i64 (.ofNat (i+1))=.ofNat (i+1):=wrap_i64 (by omega)
 have hlen:=sp.len
 have sd:Sl (.lst ((x::y::z::u::mo m)::tl)) ((x::y::z::u::mo m)::tl):=.lst
 have id:=fun(hh:HF) (kd:IntKind)=>sd.idx (h:=hh) (k:=kd) (i:=0) (sz:=12) rfl (by simp[Xt,hm])
 have s1:=W6 (c:=x::y::z::u::mo m) (es:=tl) h12
 have tm:(moD m).take 8=moD m:=Ze (by rw[Xb];omega)
 have dm:(moD m).drop 8=[]:=Zp (by rw[Xb];omega)
 have w0:=Xx m
 obtain⟨m1,m2,m3,m4,m5,m6,m7,m8,rfl⟩:=eight hm
 have han:∀(n:Nat) (c:List DL) (ids:List Nat),X8 99 15 184 n [c] ids=some ⟨.one (.own n 0 0 1),[⟨false,0,15,[c],false,99⟩],[],ids⟩:=fun _ _ _=>rfl
 simp only[mo,Zx,ZZ]at s1 id hdec
 have f2:(ds.length+1)*184<=lim:=by unfold lim;omega
 have f3:ds.length+1<=9223372036854775807:=by omega
 apply Exists.intro
 rw[Xa]
 simp(decide:=true)only[EVS,EVN,EVF,EVH,reduceIte,Nat.reduceEqDiff,Nat.reduceLeDiff,Nat.reduceAdd,x63_1,hlt,ip,f1,hlen,hes,hmd,MDS,hdec,id,s1,f2,f3,ZU,List.map_append,dsB,mo,dvC,pc]
 rfl
end Go.Proofs.YtefpgecinlekpaaGreat
namespace Go.Num
def WN (o:List (List Int)):List (List Qm)->Nat->List (Qm×List Qm×List Qm×Nat)
 |[],_=>[]
 |f::fs,i=>match U3 o f with
  |[]=>WN o fs (i+1)
  |t::us=>(t,f,us,i)::WN o fs (i+1)
end Go.Num
namespace Go.Proofs.YtefpgecinlekpaaGreat
open Go.Ev Go.Num
abbrev IsDvs (ds:List (List PL))(l:List (Qm×List Qm×List Qm×Nat)):Prop:=All2 (fun d e=>IsDv d e.1 e.2.1 e.2.2.1 e.2.2.2) ds l
inductive DvsR (E:Oracle)(lo:PL):List PL->Nat->List (List PL)->Prop
 |nil {i:Nat}:DvsR E lo [] i []
 |skip {p:PL} {ps:List PL} {i:Nat} {ds:List (List PL)} (sp:Sl p []) (h:DvsR E lo ps (i+1) ds):DvsR E lo (p::ps) i ds
 |cons {p x y z u:PL} {m:List Nat} {ps:List PL} {i:Nat} {es tl ds:List (List PL)} (sp:Sl p es) (hes:0<es.length) (hm:m.length=8) (h12:∀d∈tl,d.length=12)
   (hdec:E.pure 83 [.one p,.one lo]=some (.one (.lst ((x::y::z::u::mo m)::tl)))) (h:DvsR E lo ps (i+1) ds):DvsR E lo (p::ps) i (dvC x y z u m p (.lst tl) i::ds)
theorem sortQ_len (o:List (List Int))(ts:List Qm):(U3 o ts).length=ts.length:=(VI o ts).length_eq
theorem dvs_evt {B:Base}(hB:StdO B){lo:PL}{o:List (List Int)}(so:IsO lo o)(ho:Tj o)(hol:o.length<1000000):∀{ls:List PL} {fs:List (List Qm)},PQs ls fs->(∀f∈fs,DistQ f/\f.length<60000)->∀i,∃ds,(Evt B fun E _=>DvsR E lo ls i ds)/\IsDvs ds (WN o fs i)
 |_,_,.nil,_,i=>⟨[],Evt.of fun _ _=>.nil,.nil⟩
 |_,_,.cons (x:=p) (y:=f) (ys:=fs) hp h,hd,i=>by
  obtain⟨ds,g1,g2⟩:=dvs_evt hB so ho hol h (fun g hg=>hd g (Zc _ hg)) (i+1)
  obtain⟨h1,h2⟩:=hd f (Zh ..)
  have hp':=hp
  obtain⟨es,sp,hpe⟩:=hp'
  have hel:=hpe.length
  have hsl:=sortQ_len o f
  unfold WN
  obtain⟨r,k1,k2⟩:=decreasing_ret hB so ho hol hp h1 h2
  obtain⟨rs,sr,hr⟩:=k2
  generalize hq:U3 o f=q at hr hsl
  cases hr with
  |nil=>
   have :es=[]:=YB (by simp at hsl;omega)
   subst this
   exact⟨ds,g1.mono fun E K e=>.skip sp e,g2⟩
  |@cons c t rs us hc hrs=>
   obtain rfl:=Sl.WL sr
   have hf:=XJ.forms hrs
   obtain⟨n,a,e,b,rfl,qq,hm⟩:=hc
   refine⟨_,(g1.and k1.evt).mono fun E K ⟨e1,e2⟩=>.cons sp (by simp at hsl;omega) hm.1 (fun d hd=>Sa.len (hf d hd)) e2 e1,.cons ?_ g2⟩
   exact⟨n,a,e,b,p,.lst rs,rfl,qq,hm,hp,rs,.lst,hrs⟩
theorem dvs_go {E:Oracle}{K:Nat}(hmd:E.mode=md){lo L:PL}{all:List PL}(slL:Sl L (XD all))(hll:all.length<400000):∀{ls:List PL} {i:Nat} {ds:List (List PL)},DvsR E lo ls i ds->∀(k v:Nat) (dd:List (List PL)) (J:Blk) (G:List Blk),all.drop i=ls->i+ls.length=all.length->dd.length<=i->ls.length<k->
  ∃T' G' v',Xa E K 0 [1,5,9,10,11] x63_1 k ⟨[(1,.one (.p lo)),(5,.one (.own 1 v 0 dd.length)),(9,.one (.p L)),(10,.one (.p (.int .i64 (.ofNat all.length)))),(11,.one (.p (.int .i64 (.ofNat i))))],J::dsB v dd::G⟩=
   some (.exit 0,⟨T',J::dsB v' (dd++ds)::G'⟩)/\Xf T' 5=some (.one (.own 1 v' 0 (dd++ds).length)):=by
 intro ls i ds h
 induction h with
 |@nil i=>
  intro k v dd J G hd hi hdd hk
  obtain⟨k,rfl⟩:∃k',k=k'+1:=⟨k-1,by omega⟩
  have hlt:¬i<all.length:=by simp at hi;omega
  have :∃T',Xa E K 0 [1,5,9,10,11] x63_1 (k+1) ⟨[(1,.one (.p lo)),(5,.one (.own 1 v 0 dd.length)),(9,.one (.p L)),(10,.one (.p (.int .i64 (.ofNat all.length)))),(11,.one (.p (.int .i64 (.ofNat i))))],J::dsB v dd::G⟩=some (.exit 0,⟨T',J::dsB v dd::G⟩)/\Xf T' 5=some (.one (.own 1 v 0 dd.length)):=by
   apply ex1
   ·rw[Xa]
    simp only[EVS,EVN,reduceIte,Nat.reduceEqDiff,x63_1,hlt]
    rfl
   ·simp only[EVS,reduceIte,Nat.reduceEqDiff]
  obtain⟨T',g1,g2⟩:=this
  exact⟨T',G,v,by rw[ZO];exact g1,by rw[ZO];exact g2⟩
 |skip sp h ih=>
  intro k v dd J G hd hi hdd hk
  obtain⟨k,rfl⟩:∃k',k=k'+1:=⟨k-1,by omega⟩
  simp only[Zi]at hi hk
  obtain⟨gp,dp⟩:=Xq hd
  obtain⟨T',G',v',g1,g2⟩:=ih k v dd J G dp (by omega) (by omega) (by omega)
  exact⟨T',G',v',(dvs_skip (K:=K) slL (by omega) gp sp _).trans g1,g2⟩
 |@cons p x y z u m ps i es tl ds sp hes hm h12 hdec h ih=>
  intro k v dd J G hd hi hdd hk
  obtain⟨k,rfl⟩:∃k',k=k'+1:=⟨k-1,by omega⟩
  simp only[Zi]at hi hk
  obtain⟨gp,dp⟩:=Xq hd
  obtain⟨G1,g0⟩:=dvs_next (K:=K) (k:=k) (v:=v) hmd slL (by omega) gp sp hes hm h12 hdec (ds:=dd) (by omega) J G
  obtain⟨T',G',v',g1,g2⟩:=ih k (v+1) (dd++[dvC x y z u m p (.lst tl) i]) J G1 dp (by omega) (by simp;omega) (by omega)
  rw[show(dd++[dvC x y z u m p (.lst tl) i]).length=dd.length+1 by simp]at g1
  rw[Zq,ZX]at g1 g2
  exact⟨T',G',v',g0.trans g1,g2⟩
theorem dvs_go0 {E:Oracle}{K:Nat}(hmd:E.mode=md){lo L:PL}{all:List PL}(slL:Sl L (XD all))(hll:all.length<400000):∀{ls:List PL} {i:Nat} {ds:List (List PL)},DvsR E lo ls i ds->∀(k:Nat),all.drop i=ls->i+ls.length=all.length->ls.length<k->
  ∃T' H',Xa E K 0 [1,5,9,10,11] x63_1 k ⟨[(1,.one (.p lo)),(5,.one (.p .nilS)),(9,.one (.p L)),(10,.one (.p (.int .i64 (.ofNat all.length)))),(11,.one (.p (.int .i64 (.ofNat i))))],[]⟩=some (.exit 0,⟨T',H'⟩)/\
   ((ds=[]/\Xf T' 5=some (.one (.p .nilS))/\H'=[])\/(ds≠[]/\∃v' J G',Xf T' 5=some (.one (.own 1 v' 0 ds.length))/\H'=J::dsB v' ds::G')):=by
 intro ls i ds h
 induction h with
 |@nil i=>
  intro k hd hi hk
  obtain⟨k,rfl⟩:∃k',k=k'+1:=⟨k-1,by omega⟩
  have hlt:¬i<all.length:=by simp at hi;omega
  have :∃T',Xa E K 0 [1,5,9,10,11] x63_1 (k+1) ⟨[(1,.one (.p lo)),(5,.one (.p .nilS)),(9,.one (.p L)),(10,.one (.p (.int .i64 (.ofNat all.length)))),(11,.one (.p (.int .i64 (.ofNat i))))],[]⟩=some (.exit 0,⟨T',[]⟩)/\Xf T' 5=some (.one (.p .nilS)):=by
   apply ex1
   ·rw[Xa]
    simp only[EVS,EVN,reduceIte,Nat.reduceEqDiff,x63_1,hlt]
    rfl
   ·simp only[EVS,reduceIte,Nat.reduceEqDiff]
  obtain⟨T',g1,g2⟩:=this
  exact⟨T',[],g1,.inl ⟨rfl,g2,rfl⟩⟩
 |skip sp h ih=>
  intro k hd hi hk
  obtain⟨k,rfl⟩:∃k',k=k'+1:=⟨k-1,by omega⟩
  simp only[Zi]at hi hk
  obtain⟨gp,dp⟩:=Xq hd
  obtain⟨T',H',g1,g2⟩:=ih k dp (by omega) (by omega)
  exact⟨T',H',(dvs_skip (K:=K) slL (by omega) gp sp _).trans g1,g2⟩
 |@cons p x y z u m ps i es tl ds sp hes hm h12 hdec h ih=>
  intro k hd hi hk
  obtain⟨k,rfl⟩:∃k',k=k'+1:=⟨k-1,by omega⟩
  simp only[Zi]at hi hk
  obtain⟨gp,dp⟩:=Xq hd
  obtain⟨J,G1,g0⟩:=dvs_first (K:=K) (k:=k) hmd slL (by omega) gp sp hes hm h12 hdec
  obtain⟨T',G',v',g1,g2⟩:=dvs_go (K:=K) hmd slL hll h k 0 [dvC x y z u m p (.lst tl) i] J G1 dp (by omega) (by simp) (by omega)
  rw[ZX]at g1 g2
  exact⟨T',_,g0.trans g1,.inr ⟨by simp,v',J,G',g2,rfl⟩⟩
theorem divisors_ret {B:Base}(hB:StdO B){lo L:PL}{o:List (List Int)}(so:IsO lo o)(ho:Tj o)(hol:o.length<1000000){ls:List PL}{fs:List (List Qm)}(sl:Sl L (XD ls))(h:PQs ls fs)(hd:∀f∈fs,DistQ f/\f.length<60000)(hl:fs.length<400000):
  ∃r ds,Ret B 63 [.one L,.one lo] (.one r)/\Sl r ds/\IsDvs ds (WN o fs 0):=by
 have hll:=h.length
 obtain⟨ds,g1,g2⟩:=dvs_evt hB so ho hol h hd 0
 have hlen:=sl.len
 rw[Ww]at hlen
 by_cases h0:ds=[]
 ·subst h0
  refine⟨.nilS,[],Ret.of (hB.tab _ _ rfl) ((g1.and (hB.toStd.evt.and (Evt.ge (ls.length+1)))).mono fun E K ⟨e1,hmd,hK⟩=> ?_),.nil,g2⟩
  obtain⟨T',H',k1,k2⟩:=dvs_go0 (K:=K) hmd sl (by omega) e1 K rfl (by omega) (by omega)
  rcases k2 with⟨-,k2,rfl⟩|⟨k0,-⟩
  ·simp only[EVS,EVN,reduceIte,Nat.reduceEqDiff,Nat.reduceLeDiff,Nat.reduceAdd,x63,hlen,k1,k2]
  ·exact absurd rfl k0
 ·refine⟨.lst ds,ds,Ret.of (hB.tab _ _ rfl) ((g1.and (hB.toStd.evt.and (Evt.ge (ls.length+1)))).mono fun E K ⟨e1,hmd,hK⟩=> ?_),.lst,g2⟩
  obtain⟨T',H',k1,k2⟩:=dvs_go0 (K:=K) hmd sl (by omega) e1 K rfl (by omega) (by omega)
  rcases k2 with⟨k0,-,-⟩|⟨-,v',J,G',k2,rfl⟩
  ·exact absurd k0 h0
  ·have ht:=V5 ds (Zg _)
   have hf:=fun h=>Uv 5 h ds
   simp only[EVS,EVN,reduceIte,Nat.reduceEqDiff,Nat.reduceLeDiff,Nat.reduceAdd,x63,hlen,k1,k2,ht,hf,XR,Zg]
end Go.Proofs.YtefpgecinlekpaaGreat
