/- Division: Leads, its rounds (written by gen_qlds.py). -/
import Derived.Test.YtefpgecinlekpaaGreatQMin
import Derived.Test.YtefpgecinlekpaaGreatQList
import Derived.Test.YtefpgecinlekpaaGreatGrC
set_option maxHeartbeats 16000000
set_option maxRecDepth 100000
namespace Go.Proofs.YtefpgecinlekpaaGreat
open Go.Ev Go.Num
theorem plead0_ret {B:Base}(hB:Std B){lp lo:PL}(sl:Sl lp []):Ret B 58 [.one lp,.one lo] (.tup [.agg (.bool false::.nilS::.bool false::.nilS::mo Tk),.one (.bool false)]):=by
 have hl:=sl.len
 refine Ret.of (hB.tab _ _ rfl) (hB.evt.mono fun E K hmd=> ?_)
 simp(decide:=true)only[EVS,EVN,reduceIte,Nat.reduceAdd,x58,hl]
 rfl
abbrev ldS (lo L:PL)(d:DL)(n i:Nat):List (Nat×DV):=[(1,.one (.p lo)),(5,.one d),(10,.one (.p L)),(11,.one (.p (.int .i64 (.ofNat n)))),(12,.one (.p (.int .i64 (.ofNat i))))]
theorem ld_skip {E:Oracle}{K k i:Nat}(hmd:E.mode=md){lo L p:PL}{ls:List PL}(sl:Sl L (XD ls))(hi:ls[i]? =some p)(hl:ls.length<1000000)(hc:E.pure 58 [.one p,.one lo]=some (.tup [.agg (.bool false::.nilS::.bool false::.nilS::mo Tk),.one (.bool false)]))(d:DL)(H:List Blk):
  ∃J,Xa E K 0 [1,5,10,11,12] x22_1 (k+1) ⟨ldS lo L d ls.length i,H⟩=Xa E K 0 [1,5,10,11,12] x22_1 k ⟨ldS lo L d ls.length (i+1),H++J⟩:=by
 have hil:i<ls.length:=(Zb.mp hi).1
 have ip:=fun(hh:HF) (kd:IntKind)=>sl.idx (h:=hh) (k:=kd) (sz:=1) (Ud hi) rfl
 have f1:Xd .i64 (.ofNat (i+1))=.ofNat (i+1):=wrap_i64 (by omega)
 apply Exists.intro
 rw[Xa]
 simp(decide:=true)only[EVS,EVN,EVH,reduceIte,Nat.reduceAdd,x22_1,hmd,MDS,hil,ip,hc,f1,XK,XS,Zm,Zr,XT,Xb,Tk]
 rfl
theorem ld_newN {E:Oracle}{K k i:Nat}(hmd:E.mode=md){lo L p:PL}{ls:List PL}(sl:Sl L (XD ls))(hi:ls[i]? =some p)(hl:ls.length<1000000){a b c e:PL}{m:List Nat}(hm:m.length=8)(hc:E.pure 58 [.one p,.one lo]=some (.tup [.agg (a::b::c::e::mo m),.one (.bool true)]))(H:List Blk):
  ∃J,Xa E K 0 [1,5,10,11,12] x22_1 (k+1) ⟨ldS lo L (.p .nilS) ls.length i,H⟩=Xa E K 0 [1,5,10,11,12] x22_1 k ⟨ldS lo L (.own (H.length+2) 0 0 1) ls.length (i+1),H++J⟩/\J[2]? =some (moS 0 [mo m]):=by
 have hil:i<ls.length:=(Zb.mp hi).1
 have ip:=fun(hh:HF) (kd:IntKind)=>sl.idx (h:=hh) (k:=kd) (sz:=1) (Ud hi) rfl
 have f1:Xd .i64 (.ofNat (i+1))=.ofNat (i+1):=wrap_i64 (by omega)
 have tm:(moD m).take 8=moD m:=Ze (by rw[Xb];omega)
 have dm:(moD m).drop 8=[]:=Zp (by rw[Xb];omega)
 have w:=Xx m
 have f2:1*64<=lim:=by unfold lim;omega
 have f3:1<=9223372036854775807:=by omega
 have han:∀(n:Nat) (c:List DL) (ids:List Nat),X8 51 8 64 n [c] ids=some ⟨.one (.own n 0 0 1),[⟨false,0,8,[c],false,51⟩],[],ids⟩:=fun _ _ _=>rfl
 apply ex1
 ·rw[Xa]
  simp(decide:=true)only[EVS,EVN,EVH,reduceIte,Nat.reduceAdd,x22_1,hmd,MDS,hil,ip,hc,f1,Vn,XK,XS,Zq,Zm,Zr,tm,hm,XT,Xb,han]
  rfl
 ·simp only[Yy,YL,moS,pc,XT,Zx,ZZ]
theorem ld_newO {E:Oracle}{K k i:Nat}(hmd:E.mode=md){lo L p:PL}{ls:List PL}(sl:Sl L (XD ls))(hi:ls[i]? =some p)(hl:ls.length<1000000){a b c e:PL}{m:List Nat}(hm:m.length=8)(hc:E.pure 58 [.one p,.one lo]=some (.tup [.agg (a::b::c::e::mo m),.one (.bool true)])){id v:Nat}{rs:List (List PL)}(hrs:rs.length<1000000)(H:List Blk)(hid:H[id]? =some (moS v rs)):
  ∃J,Xa E K 0 [1,5,10,11,12] x22_1 (k+1) ⟨ldS lo L (.own id v 0 rs.length) ls.length i,H⟩=Xa E K 0 [1,5,10,11,12] x22_1 k ⟨ldS lo L (.own id (v+1) 0 (rs++[mo m]).length) ls.length (i+1),H.set id (moS (v+1) (rs++[mo m]))++J⟩:=by
 have hil:i<ls.length:=(Zb.mp hi).1
 have ip:=fun(hh:HF) (kd:IntKind)=>sl.idx (h:=hh) (k:=kd) (sz:=1) (Ud hi) rfl
 have f1:Xd .i64 (.ofNat (i+1))=.ofNat (i+1):=wrap_i64 (by omega)
 have tm:(moD m).take 8=moD m:=Ze (by rw[Xb];omega)
 have dm:(moD m).drop 8=[]:=Zp (by rw[Xb];omega)
 have w:=Xx m
 have hidl:id<H.length:=(Zb.1 hid).1
 have st:=fun X b=>TC (H:=H) hidl X b
 have gid:=Xy hid
 have f2:(rs.length+1)*64<=lim:=by unfold lim;omega
 have f3:rs.length+1<=9223372036854775807:=by omega
 have c2:∀x,(H.length+x<=id)=False:=fun x=>by simp;omega
 have c3:(H.length<=id)=False:=by simp;omega
 have c4:∀x,(id=H.length+x)=False:=fun x=>by simp;omega
 have c5:∀x,(H.length+x=id)=False:=fun x=>by simp;omega
 have c6:(H.length=id)=False:=by simp;omega
 have c7:(id=H.length)=False:=by simp;omega
 have psn:pc rs++[moD m]=pc (rs++[mo m]):=by simp[pc,XT]
 simp only[moS]at gid hid
 apply Exists.intro
 rw[Xa]
 simp(decide:=true)only[EVS,EVN,EVH,reduceIte,Nat.reduceAdd,x22_1,hmd,MDS,hil,ip,hc,f1,Vn,XK,XS,Zq,Zm,Zr,tm,hm,XT,Xb,st,gid,f2,f3,XR,psn,Z4]
 rfl
def ldM (o:List (List Int)):List (List Qm)->List (List Nat)
 |[]=>[]
 |f::fs=>match WI o f with
  |none=>ldM o fs
  |some s=>s.2::ldM o fs
inductive LdR (E:Oracle)(lo:PL):List PL->List (List Nat)->Prop
 |nil:LdR E lo [] []
 |skip {p:PL} {ls:List PL} {ms:List (List Nat)} (hc:E.pure 58 [.one p,.one lo]=some (.tup [.agg (.bool false::.nilS::.bool false::.nilS::mo Tk),.one (.bool false)])) (h:LdR E lo ls ms):LdR E lo (p::ls) ms
 |new {p a b c e:PL} {m:List Nat} {ls:List PL} {ms:List (List Nat)} (hm:m.length=8) (hc:E.pure 58 [.one p,.one lo]=some (.tup [.agg (a::b::c::e::mo m),.one (.bool true)])) (h:LdR E lo ls ms):LdR E lo (p::ls) (m::ms)
theorem ldR_evt {B:Base}(hB:Std B){lo:PL}{o:List (List Int)}(so:IsO lo o)(ho:Tj o)(hol:o.length<1000000):∀{ls:List PL} {fs:List (List Qm)},PQs ls fs->(∀f∈fs,f.length<100000)->(Evt B fun E _=>LdR E lo ls (ldM o fs))/\∀m∈ldM o fs,XF m
 |[],_,.nil,_=>⟨Evt.of fun _ _=>.nil,fun _ h=>by cases h⟩
 |p::ls,f::fs,.cons hp h,hl=>by
  obtain⟨ih1,ih2⟩:=ldR_evt hB so ho hol h fun f hf=>hl f (Zc _ hf)
  have hlf:=hl f (Zh ..)
  cases f with
  |nil=>
   obtain⟨es,sl,hq⟩:=hp
   cases hq
   exact⟨(ih1.and (plead0_ret hB (lo:=lo) sl).evt).mono fun E K ⟨e1,e2⟩=>.skip e2 e1,ih2⟩
  |cons t ts=>
   simp only[Zi]at hlf
   obtain⟨c,h1,h2⟩:=plead_ret hB so ho hol hp (by omega)
   obtain⟨t1,t2,t3,t4,rfl⟩:=h2.eight
   have hm:=h2.mok8
   refine⟨(ih1.and h1.evt).mono fun E K ⟨e1,e2⟩=>.new hm.1 e2 e1,fun m hm'=> ?_⟩
   rcases Zk.1 hm' with rfl|hm'
   ·exact hm
   ·exact ih2 m hm'
theorem ldM_len (o:List (List Int)):∀(fs:List (List Qm)),(ldM o fs).length<=fs.length
 |[]=>Zg _
 |f::fs=>by
  have:=ldM_len o fs
  unfold ldM
  split
  ·simp only[Zi];omega
  ·simp only[Zi];omega
structure LSt (H:List Blk)(x:SlX)(acc:List (List Nat)):Prop where
 px:plX x=plM acc
 own:∀id v es,x=some (id,v,es)->H[id]? =some (moS v es)/\es=acc.map mo
theorem ld_go {E:Oracle}{K:Nat}(hmd:E.mode=md){lo L:PL}{all:List PL}(sl:Sl L (XD all))(hl:all.length<1000000):∀{rest:List PL} {ms:List (List Nat)},LdR E lo rest ms->∀(i k:Nat) (x:SlX) (H:List Blk) (acc:List (List Nat)),all.drop i=rest->LSt H x acc->i+rest.length=all.length->rest.length<k->acc.length+rest.length<1000000->
  ∃T' H' x',Xa E K 0 [1,5,10,11,12] x22_1 k ⟨ldS lo L (slX x) all.length i,H⟩=some (.exit 0,⟨T',H'⟩)/\Xf T' 5=some (.one (slX x'))/\LSt H' x' (acc++ms):=by
 intro rest ms h
 induction h with
 |nil=>
  intro i k x H acc _ st hi hk _
  obtain⟨k,rfl⟩:∃k',k=k'+1:=⟨k-1,by omega⟩
  simp only[Zw,Yu]at hi
  subst hi
  have :∃T',Xa E K 0 [1,5,10,11,12] x22_1 (k+1) ⟨ldS lo L (slX x) all.length all.length,H⟩=some (.exit 0,⟨T',H⟩)/\Xf T' 5=some (.one (slX x)):=by
   apply ex1
   ·rw[Xa]
    simp only[EVS,EVN,reduceIte,Nat.reduceEqDiff,x22_1,ZA]
    rfl
   ·simp only[EVS,reduceIte,Nat.reduceEqDiff]
  obtain⟨T',g1,g2⟩:=this
  exact⟨T',H,x,g1,g2,by rw[ZO];exact st⟩
 |@skip p ls ms hc h ih=>
  intro i k x H acc hd st hi hk hn
  obtain⟨k,rfl⟩:∃k',k=k'+1:=⟨k-1,by omega⟩
  simp only[Zi]at hi hk hn
  obtain⟨gi,gd⟩:=Xq hd
  obtain⟨J,e⟩:=ld_skip (K:=K) (k:=k) hmd sl gi hl hc (slX x) H
  rw[e]
  exact ih (i+1) k x (H++J) acc gd ⟨st.px,fun id v es e=>⟨Xy (st.own id v es e).1 J,(st.own id v es e).2⟩⟩ (by omega) (by omega) (by omega)
 |@new p a b c e m ls ms hm hc h ih=>
  intro i k x H acc hd st hi hk hn
  obtain⟨k,rfl⟩:∃k',k=k'+1:=⟨k-1,by omega⟩
  simp only[Zi]at hi hk hn
  obtain⟨gi,gd⟩:=Xq hd
  have ea:acc++m::ms=(acc++[m])++ms:=by simp
  rw[ea]
  cases x with
  |none=>
   have ha:acc=[]:=by
    have:=st.px
    cases acc with
    |nil=>rfl
    |cons a l=>cases this
   subst ha
   obtain⟨J,e,hJ⟩:=ld_newN (K:=K) (k:=k) hmd sl gi hl hm hc H
   simp only[slX]
   rw[e]
   refine ih (i+1) k (some (H.length+2,0,[mo m])) (H++J) [m] gd ⟨rfl,fun id v es e=> ?_⟩ (by omega) (by omega) (by simp;omega)
   simp only[Za,Zl]at e
   obtain⟨rfl,rfl,rfl⟩:=e
   refine⟨?_,rfl⟩
   rw[ZB (by omega),Yx]
   exact hJ
  |some q=>
   obtain⟨id,v,es⟩:=q
   obtain⟨o1,rfl⟩:=st.own id v es rfl
   have hidl:id<H.length:=(Zb.1 o1).1
   obtain⟨J,e⟩:=ld_newO (K:=K) (k:=k) hmd sl gi hl hm hc (id:=id) (v:=v) (rs:=acc.map mo) (by simp;omega) H o1
   have ep:plX (some (id,v+1,acc.map mo++[mo m]))=plM (acc++[m]):=by
    have :plM (acc++[m])=.lst ((acc++[m]).map mo):=by cases acc<;>rfl
    rw[this]
    simp[plX]
   simp only[slX]
   rw[e]
   refine ih (i+1) k (some (id,v+1,acc.map mo++[mo m])) _ (acc++[m]) gd ⟨ep,fun id' v' es' e=> ?_⟩ (by omega) (by omega) (by simp;omega)
   simp only[Za,Zl]at e
   obtain⟨rfl,rfl,rfl⟩:=e
   exact⟨Xy (Yf hidl) J,by simp⟩
theorem leads_ret {B:Base}(hB:StdM B){lo L:PL}{o:List (List Int)}(so:IsO lo o)(ho:Tj o)(hol:o.length<1000000){ls:List PL}{fs:List (List Qm)}(sl:Sl L (XD ls))(hfs:PQs ls fs)(hl:∀f∈fs,f.length<100000)(hn:fs.length<50000):Ret B 22 [.one L,.one lo] (.one (plM (minL (ldM o fs)).reverse)):=by
 have hS:=hB.toStd
 obtain⟨h1,h2⟩:=ldR_evt hS so ho hol hfs hl
 have hll:ls.length=fs.length:=hfs.length
 have hm:=minimal_ret hB h2 (by have:=ldM_len o fs;omega)
 rw[show Tl (WG (ldM o fs)) []=minL (ldM o fs)from rfl]at hm
 generalize plM (minL (ldM o fs)).reverse=res at hm
 have hres:res.scalar=true\/res.scalar=false:=by cases res.scalar<;>simp
 refine Ret.of (hS.tab _ _ rfl) ((h1.and (hm.evt.and (hS.evt.and (Evt.ge (ls.length+1))))).mono fun E K ⟨e0,e1,hmd,hK⟩=> ?_)
 obtain⟨T',H',x',k1,k2,st⟩:=ld_go (K:=K) hmd sl (by omega) e0 0 K none [] [] rfl ⟨rfl,fun _ _ _ h=>by cases h⟩ (by simp) (by omega) (by simp;omega)
 rw[ZL]at st
 have hlen:=sl.len
 have hfz:=frz_slM (H:=H') (x:=x') (fun id v es e=>(st.own id v es e).1) 5
 rw[st.px]at hfz
 simp only[ldS,slX]at k1
 cases x' with
 |none=>
  have hp:=st.px
  simp only[plX]at hp
  rw[<-hp]at e1
  simp only[slX]at k2
  simp(decide:=true)only[EVS,EVN,EVH,reduceIte,Nat.reduceAdd,x22,hmd,MDS,hlen,Ww,k1,k2,e1]
 |some q=>
  obtain⟨id,v,es⟩:=q
  obtain⟨o1,-⟩:=st.own id v es rfl
  simp only[moS]at o1
  simp only[slX]at k2 hfz
  rcases hres with hres|hres<;>
  simp(decide:=true)only[EVS,EVN,EVH,reduceIte,Nat.reduceAdd,x22,hmd,MDS,hlen,Ww,k1,k2,e1,hfz,o1,hres]
abbrev l5S (d2 d3 d4 d7 d8 d9 d10 d11:DV)(i:Nat):List (Nat×DV):=[(2,d2),(3,d3),(4,d4),(7,d7),(8,d8),(9,d9),(10,d10),(11,d11),(12,.one (.p (.int .i64 (.ofNat i))))]
theorem sc_round {E:Oracle}{K k i id v c:Nat}(hmd:E.mode=md){cd:Int}{L p p':PL}{a1 a2 a3 a4:PL}{ls o:List PL}{d3 d4 d7 d9 d10:DV}(sl:Sl L (XD ls))(hi:ls[i]? =some p)(hl:ls.length<1000000)(ho:o.length<1000000)
  (hmx:Uc ltF [.one (.p (.int .i8 cd)),.one (.p (.int .i8 (.ofNat 1)))]=some ⟨.one (.p (.int .i8 (.ofNat c))),[],[],[]⟩) (hc:c<128) (h1:E.pure 37 [.one (.int .i64 (.ofNat c))]=some (.agg [a1,a2,a3,a4])) (h2:E.pure 36 [.agg [a1,a2,a3,a4],.one p]=some (.one p')) (H:List Blk) (hid:H[id]? =some (poB v o)):
  ∃J,Xa E K 0 [2,3,4,7,8,9,10,11,12] x5_1 (k+1) ⟨l5S (.one (.p (.int .i8 cd))) d3 d4 d7 (.one (.p L)) d9 d10 (.one (.own id v 0 o.length)) i,H⟩=
   Xa E K 0 [2,3,4,7,8,9,10,11,12] x5_1 k ⟨l5S (.one (.p (.int .i8 cd))) d3 d4 d7 (.one (.p L)) d9 d10 (.one (.own id (v+1) 0 (o++[p']).length)) (i+1),H.set id (poB (v+1) (o++[p']))++J⟩:=by
 have hil:i<ls.length:=(Zb.mp hi).1
 have ip:=fun(hh:HF) (kd:IntKind)=>sl.idx (h:=hh) (k:=kd) (sz:=1) (Ud hi) rfl
 have hlen:=sl.len
 have f0:Xd .i64 (.ofNat c)=.ofNat c:=wrap_i64 (by omega)
 have f1:Xd .i64 (.ofNat (i+1))=.ofNat (i+1):=wrap_i64 (by omega)
 have f2:(o.length+1)*24<=lim:=by unfold lim;omega
 have f3:o.length+1<=9223372036854775807:=by omega
 have hidl:id<H.length:=(Zb.1 hid).1
 have st:=fun X b=>TC (H:=H) hidl X b
 have gid:=Xy hid
 have e:poB (v+1) (o++[p'])=⟨false,v+1,1,pc (XD o)++[[.p p']],false,30⟩:=by unfold poB;rw[pc_snoc1]
 rw[e]
 have c3:(H.length<=id)=False:=by simp;omega
 have c4:(H.length=id)=False:=by simp;omega
 have c5:(id=H.length)=False:=by simp;omega
 simp only[poB]at gid hid
 apply Exists.intro
 rw[Xa]
 simp(decide:=true)only[EVS,EVN,EVF,EVH,reduceIte,Nat.reduceEqDiff,Nat.reduceLeDiff,Nat.reduceAdd,x5_1,hmd,MDS,hlen,Ww,hil,ip,hmx,h1,h2,f0,f1,f2,f3,st,gid,c3,c5,XR,XK,Z4,Zm,Zr]
 rfl
inductive ScR (E:Oracle)(cz:List PL):List PL->List PL->Prop
 |nil:ScR E cz [] []
 |cons {p p':PL} {ls ls':List PL} (h2:E.pure 36 [.agg cz,.one p]=some (.one p')) (h:ScR E cz ls ls'):ScR E cz (p::ls) (p'::ls')
theorem sc_go {E:Oracle}{K id c:Nat}(hmd:E.mode=md){cd:Int}{L:PL}{a1 a2 a3 a4:PL}{all:List PL}{d3 d4 d7 d9 d10:DV}(sl:Sl L (XD all))(hl:all.length<1000000)
  (hmx:Uc ltF [.one (.p (.int .i8 cd)),.one (.p (.int .i8 (.ofNat 1)))]=some ⟨.one (.p (.int .i8 (.ofNat c))),[],[],[]⟩) (hc:c<128) (h1:E.pure 37 [.one (.int .i64 (.ofNat c))]=some (.agg [a1,a2,a3,a4])):
  ∀{rest ps:List PL},ScR E [a1,a2,a3,a4] rest ps->∀(i k v:Nat) (o:List PL) (H:List Blk),all.drop i=rest->H[id]? =some (poB v o)->i+rest.length=all.length->rest.length<k->o.length+rest.length<1000000->
  ∃T' H' v',Xa E K 0 [2,3,4,7,8,9,10,11,12] x5_1 k ⟨l5S (.one (.p (.int .i8 cd))) d3 d4 d7 (.one (.p L)) d9 d10 (.one (.own id v 0 o.length)) i,H⟩=some (.exit 0,⟨T',H'⟩)/\
   (Xf T' 3=some d3/\Xf T' 4=some d4/\Xf T' 7=some d7/\Xf T' 8=some (.one (.p L))/\Xf T' 9=some d9/\Xf T' 10=some d10/\Xf T' 11=some (.one (.own id v' 0 (o++ps).length)))/\H'[id]? =some (poB v' (o++ps))/\∀j b,j≠id->H[j]? =some b->H'[j]? =some b:=by
 intro rest ps h
 induction h with
 |nil=>
  intro i k v o H _ hid hi hk _
  obtain⟨k,rfl⟩:∃k',k=k'+1:=⟨k-1,by omega⟩
  simp only[Zw,Yu]at hi
  subst hi
  have hlen:=sl.len
  rw[ZO]
  have :∃T',Xa E K 0 [2,3,4,7,8,9,10,11,12] x5_1 (k+1) ⟨l5S (.one (.p (.int .i8 cd))) d3 d4 d7 (.one (.p L)) d9 d10 (.one (.own id v 0 o.length)) all.length,H⟩=some (.exit 0,⟨T',H⟩)/\
   (Xf T' 3=some d3/\Xf T' 4=some d4/\Xf T' 7=some d7/\Xf T' 8=some (.one (.p L))/\Xf T' 9=some d9/\Xf T' 10=some d10/\Xf T' 11=some (.one (.own id v 0 o.length))):=by
   apply ex1
   ·rw[Xa]
    simp only[EVS,EVN,reduceIte,Nat.reduceEqDiff,x5_1,hlen,Ww,ZA]
    rfl
   ·simp only[EVS,reduceIte,Nat.reduceEqDiff,and_self]
  obtain⟨T',g1,g2⟩:=this
  exact⟨T',H,v,g1,g2,hid,fun _ _ _ h=>h⟩
 |@cons p p' ls ls' h2 h ih=>
  intro i k v o H hd hid hi hk hn
  obtain⟨k,rfl⟩:∃k',k=k'+1:=⟨k-1,by omega⟩
  simp only[Zi]at hi hk hn
  obtain⟨gi,gd⟩:=Xq hd
  have hidl:id<H.length:=(Zb.1 hid).1
  obtain⟨J,e⟩:=sc_round (K:=K) (k:=k) (v:=v) (d3:=d3) (d4:=d4) (d7:=d7) (d9:=d9) (d10:=d10) hmd sl gi hl (by omega) hmx hc h1 h2 H hid
  obtain⟨T',H',v',g1,g2,g3,g4⟩:=ih (i+1) k (v+1) (o++[p']) _ gd (Xy (Yf hidl) J) (by omega) (by omega) (by simp;omega)
  have ea:o++p'::ls'=o++[p']++ls':=by simp
  rw[ea,e]
  exact⟨T',H',v',g1,g2,g3,fun j b hj hb=>g4 j b hj (Xy (by rw[Zz (fun e=>hj e.symm)];exact hb) J)⟩
theorem binAggN_mo {m n:List Nat}(hm:m.length=8)(hn:n.length=8):WY true .i64 8 [.agg (moD m),.agg (moD n)]=some ⟨.one (.p (.bool (!decide (m=n)))),[],[],[]⟩:=by
 have h1:Nat.beq (moD m).length 8=true:=by rw[Xb,hm];rfl
 simp only[WY,Res.pure,h1,cond_true,SF m n (by rw[hm,hn])]
 cases decide (m=n)<;>rfl
abbrev c5S (A:PL)(d7:DV)(i:Nat):List (Nat×DV):=[(7,d7),(14,.one (.p A)),(15,.one (.p A)),(16,.one (.p (.int .i64 (.ofNat i))))]
theorem cm_round0 {E:Oracle}{K k:Nat}(hmd:E.mode=md){ms:List (List Nat)}{m:List Nat}{A:PL}{d7:DV}(sl:SlM A ms)(hi:ms[0]? =some m)(hm:m.length=8)(hl:ms.length<1000000)(H:List Blk):
  Xa E K 0 [7,14,15,16] x5_2 (k+1) ⟨c5S A d7 0,H⟩=Xa E K 0 [7,14,15,16] x5_2 k ⟨c5S A d7 1,H⟩:=by
 have hil:0<ms.length:=(Zb.mp hi).1
 have gi:(ms.map mo)[0]? =some (mo m):=by rw[Zv,hi];rfl
 have ip:=fun(hh:HF) (kd:IntKind)=>sl.idx (h:=hh) (k:=kd) (sz:=8) gi (by rw[Xt];exact hm)
 have hlen:=sl.len
 have tm:(moD m).take 8=moD m:=Ze (by rw[Xb];omega)
 have hb:=binAggN_mo hm hm
 have f1:Xd .i64 (.ofNat 1)=.ofNat 1:=rfl
 rw[Xa]
 simp(decide:=true)only[EVS,EVN,EVF,reduceIte,Nat.reduceEqDiff,Nat.reduceAdd,x5_2,hmd,MDS,hlen,ZU,hil,ip,hb,tm,hm,XT,Xb,f1]
theorem cm_roundS {E:Oracle}{K k i:Nat}(hmd:E.mode=md){ms:List (List Nat)}{m n:List Nat}{A:PL}{d7:DV}(sl:SlM A ms)(hn0:ms[i]? =some n)(hi:ms[i+1]? =some m)(hm:m.length=8)(hn:n.length=8)(hl:ms.length<1000000)(hc:E.pure 38 [.agg (mo n),.agg (mo m)]=some (.one (.int .i64 (.ofNat 1))))(H:List Blk):
  Xa E K 0 [7,14,15,16] x5_2 (k+1) ⟨c5S A d7 (i+1),H⟩=Xa E K 0 [7,14,15,16] x5_2 k ⟨c5S A d7 (i+1+1),H⟩:=by
 have hil:i+1<ms.length:=(Zb.mp hi).1
 have gi:(ms.map mo)[i+1]? =some (mo m):=by rw[Zv,hi];rfl
 have gn:(ms.map mo)[i]? =some (mo n):=by rw[Zv,hn0];rfl
 have ip:=fun(hh:HF) (kd:IntKind)=>sl.idx (h:=hh) (k:=kd) (sz:=8) gi (by rw[Xt];exact hm)
 have iq:=fun(hh:HF) (kd:IntKind)=>sl.idx (h:=hh) (k:=kd) (sz:=8) gn (by rw[Xt];exact hn)
 have hlen:=sl.len
 have tm:(moD m).take 8=moD m:=Ze (by rw[Xb];omega)
 have tn:(moD n).take 8=moD n:=Ze (by rw[Xb];omega)
 have hb:=binAggN_mo hm hm
 have f1:Xd .i64 (.ofNat (i+1+1))=.ofNat (i+1+1):=wrap_i64 (by omega)
 have f2:Xd .i64 (.ofNat (i+1)-.ofNat 1)=.ofNat i:=by rw[XI (by omega) (by omega)];rfl
 have f3:0<i+1:=by omega
 rw[Xa]
 simp(decide:=true)only[EVS,EVN,EVF,EVH,reduceIte,Nat.reduceEqDiff,Nat.reduceAdd,x5_2,hmd,MDS,hlen,ZU,hil,ip,iq,hb,hc,tm,tn,hm,hn,XT,Xb,f1,f2,f3,XN,XP]
theorem cm_go {E:Oracle}{K:Nat}(hmd:E.mode=md){ms:List (List Nat)}{A:PL}{d7:DV}(sl:SlM A ms)(h8:∀m∈ms,m.length=8)(hl:ms.length<1000000)
  (hc:∀i,i<ms.length->∀m n,ms[i]? =some n->ms[i+1]? =some m->E.pure 38 [.agg (mo n),.agg (mo m)]=some (.one (.int .i64 (.ofNat 1)))):∀(d i k:Nat),i+d=ms.length->d<k->
  ∃T',(∀H,Xa E K 0 [7,14,15,16] x5_2 k ⟨c5S A d7 i,H⟩=some (.exit 2,⟨T',H⟩))/\Xf T' 7=some d7
 |0,i,k,hi,hk=>by
  obtain⟨k,rfl⟩:∃k',k=k'+1:=⟨k-1,by omega⟩
  rw[Yu]at hi
  subst hi
  have hlen:=sl.len
  apply ex1
  ·intro H
   rw[Xa]
   simp only[EVS,EVN,reduceIte,Nat.reduceEqDiff,x5_2,hlen,ZU,ZA]
   rfl
  ·simp only[EVS,reduceIte,Nat.reduceEqDiff]
 |d+1,i,k,hi,hk=>by
  obtain⟨k,rfl⟩:∃k',k=k'+1:=⟨k-1,by omega⟩
  obtain⟨T',g1,g2⟩:=cm_go hmd sl h8 hl hc d (i+1) k (by omega) (by omega)
  have gi:ms[i]? =some ms[i]:=Zf (by omega)
  refine⟨T',fun H=> ?_,g2⟩
  rw[<-g1 H]
  cases i with
  |zero=>exact cm_round0 hmd sl gi (h8 _ (Zu gi)) hl H
  |succ i=>
   have gn:ms[i]? =some ms[i]:=Zf (by omega)
   exact cm_roundS hmd sl gn gi (h8 _ (Zu gi)) (h8 _ (Zu gn)) hl (hc i (by omega) _ _ gn gi) H
theorem frz_po {H:List Blk}{id v:Nat}{o:List PL}(h:H[id]? =some (poB v o))(n:Nat):Xn (n+1) (Xi H) (.own id v 0 o.length)=some (.lst (XD o)):=by
 have e:Xi H id=some (poB v o):=h
 have ht:=V5 (XD o) (n:=o.length) (by rw[Ww];exact Zg _)
 have hf:=Uv n (Xi H) (XD o)
 have hb:(Nat.beq v v&& !false&&Nat.ble (0+o.length) (pc (XD o)).length)=true:=by simp[XR,Ww]
 simp only[Xn,e,poB,hb,cond_true,Yh,ht,hf]
theorem law5_run {B:Base}(hB:Std B){X Ly lo A px a1 a2 a3 a4:PL}{n c:Nat}{cd:Int}{rs ps rm:List PL}{ms:List (List Nat)}{r:Bool}{sv:Nat}{G:List Blk}
  (h7:Ret B 7 [] (.one (.bool true))) (h9:Ret B 9 [.agg [Ly,.int .u8 (.ofNat n)]] (.one (.lst (XD rs)))) (hO:Ret B 10 [.one (.int .u8 (.ofNat n))] (.one lo))
  (hI:Ret B 20 [.one (.lst (XD rs)),.one lo] (.one (.bool r)))
  (hT:Va B 35 [.one (.p (.lst (XD rs)))] [⟨false,0,1,[[.p X]],false,24⟩,⟨false,0,2,[[.p Ly,.p (.int .u8 (.ofNat n))]],false,27⟩] (.one (.own 2 sv 0 rs.length)) ([⟨false,0,1,[[.p X]],false,24⟩,⟨false,0,2,[[.p Ly,.p (.int .u8 (.ofNat n))]],false,27⟩]++poB sv rs.reverse::G))
  (hrs:rs.length<1000) (hmx:Uc ltF [.one (.p (.int .i8 cd)),.one (.p (.int .i8 (.ofNat 1)))]=some ⟨.one (.p (.int .i8 (.ofNat c))),[],[],[]⟩) (hc:c<128) (hW:Ret B 37 [.one (.int .i64 (.ofNat c))] (.agg [a1,a2,a3,a4])) (hS:Evt B fun E _=>ScR E [a1,a2,a3,a4] rs ps)
  (hIc:Ret B 20 [.one (.lst (XD (rs.reverse++[.nilS]++ps))),.one lo] (.one (.bool r)))
  (hL:Ret B 15 [.one Ly,.one (.int .i64 (.ofNat 3)),.one (.int .i64 (.ofNat 3)),.one (.int .i64 (.ofNat 1)),.one (.int .i64 (.ofNat 3))] (.one (.lst (XD rm)))) (hIm:Ret B 20 [.one (.lst (XD rm)),.one lo] (.one (.bool true)))
  (hP:Ret B 8 [.agg [X]] (.one px)) (hIp:Ret B 20 [.one (.lst (XD [px])),.one lo] (.one (.bool true))) (hIn:Ret B 20 [.one .nilS,.one lo] (.one (.bool true)))
  (hLd:Ret B 22 [.one (.lst (XD (rs.reverse++[.nilS]++ps))),.one lo] (.one A)) (hLd2:Ret B 22 [.one (.lst (XD rs)),.one lo] (.one A))
  (sA:SlM A ms) (h8:∀m∈ms,m.length=8) (hms:ms.length<100000)
  (hcm:Evt B fun E _=>∀i,i<ms.length->∀m n,ms[i]? =some n->ms[i+1]? =some m->E.pure 38 [.agg (mo n),.agg (mo m)]=some (.one (.int .i64 (.ofNat 1)))):
  Ret B 5 [.agg [X],.agg [Ly,.int .u8 (.ofNat n)],.one (.int .i8 cd)] (.one (.bool true)):=by
 have hAs:A.scalar=true\/A.scalar=false:=by cases A.scalar<;>simp
 have hpsl:∀{E:Oracle} {cz ls ls'},ScR E cz ls ls'->ls'.length=ls.length:=fun h=>by
  induction h with
  |nil=>rfl
  |cons _ _ ih=>simp[ih]
 refine Ret.of (hB.tab _ _ rfl) ((h7.evt.and (h9.evt.and (hO.evt.and (hI.evt.and (hT.evt.and (hW.evt.and (hS.and (hIc.evt.and (hL.evt.and (hIm.evt.and (hP.evt.and (hIp.evt.and (hIn.evt.and (hLd.evt.and (hLd2.evt.and (hcm.and (hB.evt.and (Evt.ge (rs.length+ms.length+2))))))))))))))))))).mono fun E K ⟨e7,e9,eO,eI,eT,eW,eS,eIc,eL,eIm,eP,eIp,eIn,eLd,eLd2,ecm,hmd,hK⟩=> ?_)
 have slr:Sl (.lst (XD rs)) (XD rs):=.lst
 obtain⟨T',H',v',k1,⟨t3,t4,t7,t8,t9,t10,t11⟩,g2,gj⟩:=sc_go (K:=K) (id:=2) (d3:=.one (.ptr 0 0 0 0)) (d4:=.one (.ptr 1 0 0 0)) (d7:=.one (.p (.bool true))) (d9:=.one (.p lo)) (d10:=.one (.p (.bool r))) hmd slr (by omega) hmx hc eW eS 0 K (sv+1) (rs.reverse++[PL.nilS])
  (⟨false,0,1,[[.p X]],false,24⟩::⟨false,0,2,[[.p Ly,.p (.int .u8 (.ofNat n))]],false,27⟩::poB (sv+1) (rs.reverse++[PL.nilS])::(G++[⟨false,0,1,[[.p .nilS]],false,30⟩])) rfl rfl (by simp) (by omega) (by simp;omega)
 have g0:=gj 0 _ (by decide) rfl
 have g1:=gj 1 _ (by decide) rfl
 have fz:=frz_po g2 5
 obtain⟨T2,k2,t2⟩:=cm_go (K:=K) (d7:=.one (.p (.bool true))) hmd sA h8 (by omega) ecm ms.length 0 K (by omega) (by omega)
 have ht:=V5 (XD (rs.reverse++[PL.nilS]++ps)) (n:=(rs.reverse++[PL.nilS]++ps).length) (by rw[Ww];exact Zg _)
 have hf:=fun h=>Uv 5 h (XD (rs.reverse++[PL.nilS]++ps))
 have hpn:pc (XD rs.reverse)++[[DL.p .nilS]]=pc (XD (rs.reverse++[PL.nilS])):=pc_snoc1 _ _
 have hlr:(rs.reverse++[PL.nilS]).length=rs.length+1:=by simp
 have f2:(rs.length+1)*24<=lim:=by unfold lim;omega
 have f3:rs.length+1<=9223372036854775807:=by omega
 have hra:(r==r)=true:=beq_self_eq_true r
 have hlA:=sA.len
 generalize hch:rs.reverse++[PL.nilS]++ps=ch at *
 simp only[l5S,c5S,poB,hlr]at k1 k2 g2 eT
 have e1:XD [px]=[[px]]:=rfl
 rw[e1]at eIp
 rcases hAs with hAs|hAs<;>
 simp(decide:=true)only[EVS,EVN,EVF,EVH,reduceIte,Nat.reduceAdd,x5,hmd,MDS,e7,e9,eO,eI,eT,eIc,eL,eIm,eP,eIp,eIn,eLd,eLd2,k1,k2,t2,t3,t4,t7,t8,t9,t10,t11,g0,g1,g2,fz,ht,hf,hpn,f2,f3,hra,hlA,hAs,XR,Ww,List.length_reverse,XK,Xy g2,Zm]
theorem scale_times {z:Rat}{f:List Qm}(h:Q8 f):Wp z f=Wo z zM f:=by
 unfold Wp Wo
 exact List.map_congr_left fun t ht=>by rw[addM_zero (h t ht)]
theorem gen_scale {d a n:Nat}{f:List Qm}(h:Gen d a n f){c:Nat}(hc:1<=c):Gen d (a*c) n (Wp ((c:Int):Rat) f):=by
 have hz:((c:Int):Rat)≠0:=by
  intro e
  have:=(Rat.intCast_inj (a:=(c:Int)) (b:=0)).1 (by simpa using e)
  omega
 refine⟨?_,fun t ht=> ?_,fun t ht=> ?_,by unfold Wp;rw[ZU];exact h.len⟩
 ·rw[scale_times h.pl.q8];exact Ss hz rfl h.pl
 ·unfold Wp at ht
  obtain⟨u,hu,rfl⟩:=ZM.1 ht
  exact h.deg u hu
 ·unfold Wp at ht
  obtain⟨u,hu,rfl⟩:=ZM.1 ht
  obtain⟨y,h1,h2⟩:=h.cf u hu
  refine⟨(c:Int)*y,by rw[Yl,<-h1],?_⟩
  rw[Yi,ZV,ZE a c]
  exact Yq c h2
theorem leadF_scale (o:List (List Int))(z:Rat):∀(ts:List Qm) (b:Qm),VB o (z*b.1,b.2) (Wp z ts)=(z*(VB o b ts).1,(VB o b ts).2)
 |[],_=>rfl
 |t::ts,b=>by
  show VB o (if Wd o t.2 b.2=.ofNat 1 then(z*t.1,t.2)else(z*b.1,b.2)) (Wp z ts)=(z*(VB o (if Wd o t.2 b.2=.ofNat 1 then t else b) ts).1,(VB o (if Wd o t.2 b.2=.ofNat 1 then t else b) ts).2)
  by_cases h:Wd o t.2 b.2=.ofNat 1
  ·rw[if_pos h,if_pos h];exact leadF_scale o z ts t
  ·rw[if_neg h,if_neg h];exact leadF_scale o z ts b
theorem leadO_scale (o:List (List Int))(z:Rat)(f:List Qm):WI o (Wp z f)=(WI o f).map fun s=>(z*s.1,s.2):=by
 cases f with
 |nil=>rfl
 |cons t ts=>exact congrArg some (leadF_scale o z ts t)
theorem ldM_mem (o:List (List Int)):∀(fs:List (List Qm)) (m:List Nat),m∈ldM o fs↔∃f∈fs,∃s,WI o f=some s/\s.2=m
 |[],m=>by simp[ldM]
 |f::fs,m=>by
  have ih:=ldM_mem o fs m
  unfold ldM
  cases h:WI o f with
  |none=>
   simp only[ih,Zk]
   constructor
   ·rintro ⟨g,hg,r⟩;exact⟨g,.inr hg,r⟩
   ·rintro ⟨g,rfl|hg,s,hs,r⟩
    ·rw[h]at hs;cases hs
    ·exact⟨g,hg,s,hs,r⟩
  |some s=>
   simp only[Zk,ih]
   constructor
   ·rintro (rfl|⟨g,hg,r⟩)
    ·exact⟨f,.inl rfl,s,h,rfl⟩
    ·exact⟨g,.inr hg,r⟩
   ·rintro ⟨g,rfl|hg,s',hs,r⟩
    ·rw[h]at hs;cases hs;exact .inl r.symm
    ·exact .inr ⟨g,hg,s',hs,r⟩
theorem all2_rev {α β:Type}{R:α->β->Prop}:∀{xs:List α} {ys:List β},All2 R xs ys->All2 R xs.reverse ys.reverse
 |[],_,.nil=>.nil
 |x::xs,y::ys,.cons h t=>by
  rw[List.reverse_cons,List.reverse_cons]
  exact(all2_rev t).append (.cons h .nil)
theorem scR_evt {B:Base}(hB:Std B){cz:List PL}{c:Nat}(hcz:IsQ cz ((c:Int):Rat))(hc:1<=c)(hc2:c<128):∀{rs:List PL} {fs:List (List Qm)},PQs rs fs->(∀f∈fs,Gen 3 12 4 f)->∃ps,(Evt B fun E _=>ScR E cz rs ps)/\PQs ps (fs.map (Wp ((c:Int):Rat)))/\ps.length=rs.length
 |[],_,.nil,_=>⟨[],Evt.of fun _ _=>.nil,.nil,rfl⟩
 |p::rs,f::fs,.cons hp h,hg=>by
  obtain⟨ps,h1,h2,h3⟩:=scR_evt hB hcz hc hc2 h fun f hf=>hg f (Zc _ hf)
  have gf:=hg f (Zh ..)
  obtain⟨r,k1,k2⟩:=rscale_q hB hcz (Sq.int (z:=(c:Int)) (by simp;omega)) hp (gen_sz gf (by omega)) (by have:=gf.len;omega)
  have hz:((c:Int):Rat)≠0:=by
   intro e
   have:=(Rat.intCast_inj (a:=(c:Int)) (b:=0)).1 (by simpa using e)
   omega
  rw[if_neg hz]at k2
  exact⟨r::ps,(h1.and k1.evt).mono fun E K ⟨e1,e2⟩=>.cons e2 e1,.cons k2 h2,by simp[h3]⟩
theorem max_i8 {cd:Int}(h1: -128<=cd)(h2:cd<=127):∃c:Nat,1<=c/\c<128/\Uc ltF [.one (.p (.int .i8 cd)),.one (.p (.int .i8 (.ofNat 1)))]=some ⟨.one (.p (.int .i8 (.ofNat c))),[],[],[]⟩:=by
 cases cd with
 |negSucc n=>exact⟨1,by omega,by omega,rfl⟩
 |ofNat n=>
  have hn:n<=127:=by
   have :(Int.ofNat n)=(n:Int):=rfl
   omega
  by_cases h:1<n
  ·refine⟨n,by omega,by omega,?_⟩
   have e:ltF (.ofNat n) (.ofNat 1)=false:=by rw[ltF_nn,decide_eq_false_iff_not];omega
   simp only[Uc,maxD,keq,e,cond_false]
   rfl
  ·rcases(by omega:n=0\/n=1)with rfl|rfl
   ·exact⟨1,by omega,by omega,rfl⟩
   ·exact⟨1,by omega,by omega,rfl⟩
theorem dvs1_len (o:List (List Int))(f:List Qm):(WN o [f] 0).length<=1:=by
 unfold WN
 split
 ·simp[WN]
 ·simp[WN]
theorem bas1 (o:List (List Int))(f:List Qm):BasP o (WN o [f] 0) (Uq (WN o [f] 0).length (WN o [f] 0).length) true:=by
 have h:=dvs1_len o f
 have :Uq (WN o [f] 0).length (WN o [f] 0).length=[]:=by
  rcases(by omega:(WN o [f] 0).length=0\/(WN o [f] 0).length=1)with h|h<;>rw[h]<;>rfl
 rw[this];exact .nil
theorem dvs_len (o:List (List Int)):∀(fs:List (List Qm)) (i:Nat),(WN o fs i).length<=fs.length
 |[],_=>Zg _
 |f::fs,i=>by
  have:=dvs_len o fs (i+1)
  unfold WN
  split
  ·simp only[Zi];omega
  ·simp only[Zi];omega
theorem law5_ret {B:Base}(hB:StdM B)(h7:Ret B 7 [] (.one (.bool true))){X Ly:PL}(hX:Tt X)(hY:RawList Ly){n:Nat}{lo:PL}{o:List (List Int)}{w:List Nat}{cd:Int}(hc1: -128<=cd)(hc2:cd<=127)
  (hO:Ret B 10 [.one (.int .u8 (.ofNat n))] (.one lo)) (so:IsO lo o) (OL:OrdL o w) (hv:Ret B 57 [.one lo] (.one (.bool true))):
  Ret B 5 [.agg [X],.agg [Ly,.int .u8 (.ofNat n)],.one (.int .i8 cd)] (.one (.bool true)):=by
 have W:=OL.ow
 have ho:=W.o8
 have hol:=W.ol
 have hS:=hB.toStd
 obtain⟨rs,fs,k1,k2,k3,k4⟩:=lists_ret hS (k:=.int .u8 (.ofNat n)) hY
 obtain⟨rm,fm,m1,m2,m3,m4⟩:=list_ret hS hY (d:=3) (tm:=1) (mx:=3) (by omega) (by omega) (by omega)
 obtain⟨px,p,p1,p2,p3⟩:=poly_ret hS hX
 obtain⟨c,c1,c2,hmx⟩:=max_i8 hc1 hc2
 obtain⟨cz,z1,z2⟩:=rWhole_q hS (x:=(c:Int)) (by unfold S31;omega)
 obtain⟨ps,s1,s2,s3⟩:=scR_evt hS z2 c1 c2 k2 k3
 obtain⟨a1,a2,a3,a4,rfl⟩:=z2.len
 have hfl:=k2.length
 have hml:=m2.length
 have qc:PQs (rs.reverse++[.nilS]++ps) (fs.reverse++[[]]++fs.map (Wp ((c:Int):Rat))):=((all2_rev k2).append (.cons ⟨[],.nil,.nil⟩ .nil)).append s2
 generalize hgs:fs.reverse++[[]]++fs.map (Wp ((c:Int):Rat))=gs at qc
 have memg:∀g,g∈gs↔g∈fs\/g=[]\/∃f∈fs,Wp ((c:Int):Rat) f=g:=fun g=>by
  rw[<-hgs]
  simp only[Z3,List.mem_reverse,Zk,Yk,or_false,ZM,or_assoc]
 have genf:∀f∈fs,Gen 3 12 4 f:=k3
 have geng:∀g∈gs,Gen 3 1524 4 g:=fun g hg=>by
  rcases(memg g).1 hg with h|rfl|⟨f,hf,rfl⟩
  ·exact(genf g h).mono (Zg _) (by omega) (Zg _)
  ·exact(Gen.nil 3 1524 0).mono (Zg _) (Zg _) (by omega)
  ·exact(gen_scale (genf f hf) c1).mono (Zg _) (by omega) (Zg _)
 have gsl:gs.length<1000:=by rw[<-hgs];simp;omega
 have dist:∀{fs:List (List Qm)} {d a n:Nat},n<60000->(∀f∈fs,Gen d a n f)->∀f∈fs,DistQ f/\f.length<60000:=fun hn h f hf=>⟨distQ_pl (h f hf).pl,by have:=(h f hf).len;omega⟩
 have like1:Like o fs gs:=fun g hg s hs=>by
  rcases(memg g).1 hg with h|rfl|⟨f,hf,rfl⟩
  ·exact⟨g,h,s,hs,rfl,1,fun φ=>by grind⟩
  ·cases hs
  ·rw[leadO_scale]at hs
   cases h:WI o f with
   |none=>rw[h]at hs;cases hs
   |some s'=>
    rw[h]at hs
    cases hs
    exact⟨f,hf,s',h,rfl,_,fun φ=>prQ_scale _ _ _⟩
 have like2:Like o gs fs:=fun f hf s hs=>⟨f,(memg f).2 (.inl hf),s,hs,rfl,1,fun φ=>by grind⟩
 obtain⟨r,b1,b2⟩:=bas_iff W (a:=12) (n:=4) (by omega) (by omega) (by omega) genf
 obtain⟨r',d1,d2⟩:=bas_iff W (a:=1524) (n:=4) (by omega) (by omega) (by omega) geng
 have hrr:r'=r:=by
  have :r'=true↔r=true:=d2.trans ⟨fun h=>b2.2 (h.like like2 like1),fun h=>(b2.1 h).like like1 like2⟩
  cases r<;>cases r'<;>simp_all
 subst hrr
 obtain⟨rmo,e1,e2⟩:=bas_iff W (a:=3) (n:=1) (by omega) (by omega) (by omega) m3
 obtain rfl:rmo=true:=e2.2 (gba_mono W fun f hf=>⟨(m3 f hf).pl,(m3 f hf).len⟩)
 have hI:=Ur hB.toStdB so ho hol hv (L:=.lst (XD rs)) .lst k2 (dist (by omega) genf) (by omega) (by have:=dvs_len o fs 0;omega) b1
 have hIc:=Ur hB.toStdB so ho hol hv (L:=.lst (XD (rs.reverse++[.nilS]++ps))) .lst qc (dist (by omega) geng) (by omega) (by have:=dvs_len o gs 0;omega) d1
 have hIm:=Ur hB.toStdB so ho hol hv (L:=.lst (XD rm)) .lst m2 (dist (by omega) m3) (by omega) (by have:=dvs_len o fm 0;omega) e1
 have hIp:=Ur hB.toStdB so ho hol hv (L:=.lst (XD [px])) (fs:=[p]) .lst (.cons p2 .nil) (fun f hf=>by
  rw[Yo.1 hf]
  exact⟨distQ_pl p3.pl,by have:=p3.len;omega⟩) (by simp) (by have:=dvs1_len o p;omega) (bas1 o p)
 have hIn:=Ur hB.toStdB so ho hol hv (L:=.nilS) (lls:=[]) (fs:=[]) .nil .nil (fun f hf=>by cases hf) (by simp) (by simp[WN]) (r:=true) .nil
 have hLd2:=leads_ret hB so ho hol (L:=.lst (XD rs)) .lst k2 (fun f hf=>by have:=(genf f hf).len;omega) (by omega)
 have hLd:=leads_ret hB so ho hol (L:=.lst (XD (rs.reverse++[.nilS]++ps))) .lst qc (fun f hf=>by have:=(geng f hf).len;omega) (by omega)
 have f8:∀m∈ldM o fs,m.length=8:=fun m hm=>by
  obtain⟨f,hf,s,hs,rfl⟩:=(ldM_mem o fs m).1 hm
  exact(XL (genf f hf).pl hs).2.1
 have g8:∀m∈ldM o gs,m.length=8:=fun m hm=>by
  obtain⟨f,hf,s,hs,rfl⟩:=(ldM_mem o gs m).1 hm
  exact(XL (geng f hf).pl hs).2.1
 have hset:∀x,x∈ldM o gs↔x∈ldM o fs:=fun x=>by
  rw[ldM_mem,ldM_mem]
  constructor
  ·rintro ⟨g,hg,s,hs,rfl⟩
   obtain⟨f,hf,s',h1,h2,-⟩:=like1 g hg s hs
   exact⟨f,hf,s',h1,h2⟩
  ·rintro ⟨f,hf,s,hs,rfl⟩
   exact⟨f,(memg f).2 (.inl hf),s,hs,rfl⟩
 rw[minL_ext g8 f8 hset]at hLd
 obtain⟨q1,-,-,q4⟩:=UK f8
 have hml:(minL (ldM o fs)).length<=3:=by
  have h1:=minF_len (WG (ldM o fs)) []
  have h2:=(Wu (ldM o fs)).length_eq
  have h3:=ldM_len o fs
  have :(minL (ldM o fs)).length<=(WG (ldM o fs)).length:=by simpa[minL]using h1
  omega
 generalize hms:(minL (ldM o fs)).reverse=ms at hLd hLd2
 have hm8:∀m∈ms,m.length=8:=fun m hm=>f8 m (q4 m (by rw[<-hms]at hm;simpa using hm))
 have hpw:ms.Pairwise fun x y=>XW x y=.ofNat 1:=by rw[<-hms];exact List.pairwise_reverse.2 q1
 obtain⟨G,sv,hT⟩:=turned_ret hS (L:=.lst (XD rs)) .lst (by omega) [⟨false,0,1,[[.p X]],false,24⟩,⟨false,0,2,[[.p Ly,.p (.int .u8 (.ofNat n))]],false,27⟩]
 refine law5_run hS h7 k1 hO hI hT (by omega) hmx c2 z1 s1 hIc m1 hIm p1 hIp hIn hLd hLd2 (plM_sl ms) hm8 (by rw[<-hms];simp;omega) ?_
 refine Evt.all ms.length fun i hi=> ?_
 by_cases hi2:i+1<ms.length
 ·have g1:=Zf hi
  have g2:=Zf hi2
  have hcm:=rmonoCmp_ret hS (hm8 _ (Zu g1)) (hm8 _ (Zu g2))
  rw[List.pairwise_iff_getElem.1 hpw i (i+1) hi hi2 (by omega)]at hcm
  refine hcm.evt.mono fun E K e m n h1 h2=> ?_
  rw[g1]at h1
  rw[g2]at h2
  cases h1;cases h2
  exact e
 ·exact Evt.of fun E K m n _ h2=>by
   rw[Ys (by omega)]at h2
   cases h2
end Go.Proofs.YtefpgecinlekpaaGreat
