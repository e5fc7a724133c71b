/- Division: divide, the rounds over the divisors. -/
import Derived.Test.YtefpgecinlekpaaGreatQDvs
set_option maxHeartbeats 16000000
set_option maxRecDepth 100000
namespace Go.Proofs.YtefpgecinlekpaaGreat
open Go.Ev Go.Num
theorem Xy {H:List Blk}{i:Nat}{b:Blk}(h:H[i]? =some b)(X:List Blk):(H++X)[i]? =some b:=by
 rw[Zy (Zb.1 h).1];exact h
theorem TC {H:List Blk}{i:Nat}(h:i<H.length)(X:List Blk)(b:Blk):(H++X).set i b=H.set i b++X:=List.set_append_left _ _ h
abbrev Tk:List Nat:=[0,0,0,0,0,0,0,0]
theorem dvd_skip {E:Oracle}{K k j n it:Nat}(hmd:E.mode=md){r:DL}{lp by_:PL}{ds:List (List PL)}(slD:Sl by_ ds)(hnd:ds.length<1000000){a b c e p q:PL}{m m2:List Nat}{ix:Nat}(hj:ds[j]? =some (dvC a b c e m2 p q ix))(hm:m.length=8)(hm2:m2.length=8)
  (hq:E.pure 103 [.agg (mo m),.agg (mo m2)]=some (.tup [.agg (mo Tk),.one (.bool false)])) {x y z u:PL} {H:List Blk} (h10:H[it]? =some (tmK x y z u m)):
  ∃J,Xa E K 0 [2,7,8,9,10,32,33,34] x67_1 (k+1) ⟨[(2,.one (.ptr 0 0 0 0)),(7,.one (.own 1 0 0 n)),(8,.one r),(9,.one (.p lp)),(10,.one (.ptr it 0 0 0)),(32,.one (.p by_)),(33,.one (.p (.int .i64 (.ofNat ds.length)))),(34,.one (.p (.int .i64 (.ofNat j))))],H⟩=
   Xa E K 0 [2,7,8,9,10,32,33,34] x67_1 k ⟨[(2,.one (.ptr 0 0 0 0)),(7,.one (.own 1 0 0 n)),(8,.one r),(9,.one (.p lp)),(10,.one (.ptr it 0 0 0)),(32,.one (.p by_)),(33,.one (.p (.int .i64 (.ofNat ds.length)))),(34,.one (.p (.int .i64 (.ofNat (j+1)))))],H++J⟩:=by
 have hlt:j<ds.length:=(Zb.mp hj).1
 have ip:=fun(hh:HF) (kd:IntKind)=>slD.idx (h:=hh) (k:=kd) (sz:=15) hj (by simp[dvC,Xt,hm2])
 have f1:Xd .i64 (.ofNat (j+1))=.ofNat (j+1):=wrap_i64 (by omega)
 have tm:(moD m).take 8=moD m:=Ze (by rw[Xb];omega)
 obtain⟨k1,k2,k3,k4,k5,k6,k7,k8,rfl⟩:=eight hm2
 have g10:=Xy h10
 simp only[tmK]at g10 h10
 have e8:mo [k1,k2,k3,k4,k5,k6,k7,k8]=[.int .i64 (.ofNat k1),.int .i64 (.ofNat k2),.int .i64 (.ofNat k3),.int .i64 (.ofNat k4),.int .i64 (.ofNat k5),.int .i64 (.ofNat k6),.int .i64 (.ofNat k7),.int .i64 (.ofNat k8)]:=rfl
 have z8:mo Tk=[.int .i64 (.ofNat 0),.int .i64 (.ofNat 0),.int .i64 (.ofNat 0),.int .i64 (.ofNat 0),.int .i64 (.ofNat 0),.int .i64 (.ofNat 0),.int .i64 (.ofNat 0),.int .i64 (.ofNat 0)]:=rfl
 rw[z8,e8]at hq
 simp only[dvC,e8,ZR,ZL]at ip
 apply Exists.intro
 rw[Xa]
 simp(decide:=true)only[EVS,EVN,EVH,reduceIte,Nat.reduceAdd,x67_1,hmd,MDS,hlt,ip,f1,hq,g10,Xb,hm,tm,XN,XP,Vn,T7,XK,XS,Zq,Zm,Zr]
 rfl
def UB (T:List (Nat×DV))(n:Nat)(r l:DL):Prop:=Xf T 2=some (.one (.ptr 0 0 0 0))/\Xf T 7=some (.one (.own 1 0 0 n))/\Xf T 8=some (.one r)/\Xf T 9=some (.one l)
theorem exq4 {α β:Type}{p q r:α->β->Prop}{x:α}{y:β}(h:p x y)(k:q x y)(l:r x y):∃x y,p x y/\q x y/\r x y:=⟨x,y,h,k,l⟩
theorem exq3 {α β:Type}{p q:α->β->Prop}{x:α}{y:β}(h:p x y)(k:q x y):∃x y,p x y/\q x y:=⟨x,y,h,k⟩
theorem dvd_hit1 {E:Oracle}{K k j n it l:Nat}(hmd:E.mode=md){r:DL}{lo by_:PL}{ds es:List (List PL)}{c0:List PL}(slD:Sl by_ ds)(hnd:ds.length<1000000){a b c e p q:PL}{m m2 m3:List Nat}{ix:Nat}(hj:ds[j]? =some (dvC a b c e m2 p q ix))(hm:m.length=8)(hm2:m2.length=8)(hm3:m3.length=8)(h12:∀d∈es,d.length=12)
  {x y z u e1 e2 e3 e4:PL} {outs:List (List PL)}
  (hq:E.pure 103 [.agg (mo m),.agg (mo m2)]=some (.tup [.agg (mo m3),.one (.bool true)]))
  (hdv:E.pure 104 [.agg [x,y,z,u],.agg [a,b,c,e]]=some (.tup [.agg [e1,e2,e3,e4],.one (.int .i64 (.ofNat 0))]))
  (hsub:E.pure 105 [.agg [lo,by_,.int .i64 (.ofNat l),.bool true],.one (.lst es),.agg (e1::e2::e3::e4::mo m3),.one q]=some (.tup [.one (.lst outs),.one (.bool true)]))
  {H:List Blk} (h0:H[0]? =some (dnB lo by_ l (.bool true))) (h10:H[it]? =some (tmK x y z u m)):
  ∃T' J,Xa E K 0 [2,7,8,9,10,32,33,34] x67_1 (k+1) ⟨[(2,.one (.ptr 0 0 0 0)),(7,.one (.own 1 0 0 n)),(8,.one r),(9,.one (.p (.lst (c0::es)))),(10,.one (.ptr it 0 0 0)),(32,.one (.p by_)),(33,.one (.p (.int .i64 (.ofNat ds.length)))),(34,.one (.p (.int .i64 (.ofNat j))))],H⟩=some (.exit 1,⟨T',H++J⟩)/\UB T' n r (.p (.lst outs)):=by
 have hlt:j<ds.length:=(Zb.mp hj).1
 have ip:=fun(hh:HF) (kd:IntKind)=>slD.idx (h:=hh) (k:=kd) (sz:=15) hj (by simp[dvC,Xt,hm2])
 have tm:(moD m).take 8=moD m:=Ze (by rw[Xb];omega)
 have tm3:(moD m3).take 8=moD m3:=Ze (by rw[Xb];omega)
 have dm3:(moD m3).drop 8=[]:=Zp (by rw[Xb];omega)
 have w3:=Xx m3
 have s1:=W6 (c:=c0) (es:=es) h12
 obtain⟨k1,k2,k3,k4,k5,k6,k7,k8,rfl⟩:=eight hm2
 have g10:=Xy h10
 have g0:=Xy h0
 simp only[tmK]at g10 h10
 simp only[dnB]at g0 h0
 have e8:mo [k1,k2,k3,k4,k5,k6,k7,k8]=[.int .i64 (.ofNat k1),.int .i64 (.ofNat k2),.int .i64 (.ofNat k3),.int .i64 (.ofNat k4),.int .i64 (.ofNat k5),.int .i64 (.ofNat k6),.int .i64 (.ofNat k7),.int .i64 (.ofNat k8)]:=rfl
 rw[e8]at hq
 simp only[dvC,e8,ZR,ZL]at ip
 apply exq3
 ·rw[Xa]
  simp(decide:=true)only[EVS,EVN,EVF,EVH,reduceIte,Nat.reduceEqDiff,Nat.reduceLeDiff,Nat.reduceAdd,x67_1,hmd,MDS,hlt,ip,s1,hq,hdv,hsub,g10,g0,XT,Xb,hm,hm3,tm,tm3,w3,XN,XP,Vn,T7,XK,XS,Zq,Zm,Zr]
  rfl
 ·simp only[UB,EVS,reduceIte,Nat.reduceEqDiff,and_self]
theorem dvd_hitN {E:Oracle}{K k j n it l:Nat}(hmd:E.mode=md){r:DL}{lo by_:PL}{ds es:List (List PL)}{c0:List PL}(slD:Sl by_ ds)(hnd:ds.length<1000000){a b c e p q:PL}{m m2 m3:List Nat}{ix:Nat}(hj:ds[j]? =some (dvC a b c e m2 p q ix))(hm:m.length=8)(hm2:m2.length=8)(hm3:m3.length=8)(h12:∀d∈es,d.length=12)
  {x y z u e1 e2 e3 e4:PL} {outs:List (List PL)}
  (hq:E.pure 103 [.agg (mo m),.agg (mo m2)]=some (.tup [.agg (mo m3),.one (.bool true)]))
  (hdv:E.pure 104 [.agg [x,y,z,u],.agg [a,b,c,e]]=some (.tup [.agg [e1,e2,e3,e4],.one (.int .i64 (.ofNat 0))]))
  (hsub:E.pure 105 [.agg [lo,by_,.int .i64 (.ofNat l),.bool false],.one (.lst es),.agg (e1::e2::e3::e4::mo m3),.one q]=some (.tup [.one (.lst outs),.one (.bool true)]))
  {H:List Blk} (h0:H[0]? =some (dnB lo by_ l (.bool false))) (h10:H[it]? =some (tmK x y z u m)) {cells:List (List DL)} (h1:H[1]? =some ⟨false,0,1,cells,false,29⟩) (hn:cells.length=n) (hc:cells[j]? =some [.p .nilS]):
  ∃T' J,Xa E K 0 [2,7,8,9,10,32,33,34] x67_1 (k+1) ⟨[(2,.one (.ptr 0 0 0 0)),(7,.one (.own 1 0 0 n)),(8,.one r),(9,.one (.p (.lst (c0::es)))),(10,.one (.ptr it 0 0 0)),(32,.one (.p by_)),(33,.one (.p (.int .i64 (.ofNat ds.length)))),(34,.one (.p (.int .i64 (.ofNat j))))],H⟩=some (.exit 1,⟨T',H.set 1 ⟨false,0,1,cells.set j [.own (H.length+4) 0 0 1],false,29⟩++J⟩)/\UB T' n r (.p (.lst outs))/\J[4]? =some (trB 0 [e1::e2::e3::e4::mo m3]):=by
 have hlt:j<ds.length:=(Zb.mp hj).1
 have ip:=fun(hh:HF) (kd:IntKind)=>slD.idx (h:=hh) (k:=kd) (sz:=15) hj (by simp[dvC,Xt,hm2])
 have tm:(moD m).take 8=moD m:=Ze (by rw[Xb];omega)
 have tm3:(moD m3).take 8=moD m3:=Ze (by rw[Xb];omega)
 have dm3:(moD m3).drop 8=[]:=Zp (by rw[Xb];omega)
 have w3:=Xx m3
 have s1:=W6 (c:=c0) (es:=es) h12
 obtain⟨k1,k2,k3,k4,k5,k6,k7,k8,rfl⟩:=eight hm2
 have g10:=Xy h10
 have g0:=Xy h0
 simp only[tmK]at g10 h10
 simp only[dnB]at g0 h0
 have e8:mo [k1,k2,k3,k4,k5,k6,k7,k8]=[.int .i64 (.ofNat k1),.int .i64 (.ofNat k2),.int .i64 (.ofNat k3),.int .i64 (.ofNat k4),.int .i64 (.ofNat k5),.int .i64 (.ofNat k6),.int .i64 (.ofNat k7),.int .i64 (.ofNat k8)]:=rfl
 rw[e8]at hq
 simp only[dvC,e8,ZR,ZL]at ip
 subst hn
 have g1:=Xy h1
 have hcl:j<cells.length:=(Zb.mp hc).1
 have st:=fun X b=>TC (H:=H) (Zb.1 h1).1 X b
 have han:∀(n:Nat) (c:List DL) (ids:List Nat),X8 63 12 128 n [c] ids=some ⟨.one (.own n 0 0 1),[⟨false,0,12,[c],false,63⟩],[],ids⟩:=fun _ _ _=>rfl
 apply exq4
 ·rw[Xa]
  simp(decide:=true)only[EVS,EVN,EVF,EVH,reduceIte,Nat.reduceEqDiff,Nat.reduceLeDiff,Nat.reduceAdd,x67_1,hmd,MDS,hlt,ip,s1,hq,hdv,hsub,g10,g0,XT,Xb,hm,hm3,tm,tm3,w3,XN,XP,Vn,T7,XK,XS,Zq,Zm,Zr,g1,hcl,hc,st,han]
  rfl
 ·simp only[UB,EVS,reduceIte,Nat.reduceEqDiff,and_self]
 ·simp only[Yy,YL,trB,pc,XT,Zx,ZZ]
theorem dvd_hitO {E:Oracle}{K k j n it l:Nat}(hmd:E.mode=md){r:DL}{lo by_:PL}{ds es:List (List PL)}{c0:List PL}(slD:Sl by_ ds)(hnd:ds.length<1000000){a b c e p q:PL}{m m2 m3:List Nat}{ix:Nat}(hj:ds[j]? =some (dvC a b c e m2 p q ix))(hm:m.length=8)(hm2:m2.length=8)(hm3:m3.length=8)(h12:∀d∈es,d.length=12)
  {x y z u e1 e2 e3 e4:PL} {outs:List (List PL)}
  (hq:E.pure 103 [.agg (mo m),.agg (mo m2)]=some (.tup [.agg (mo m3),.one (.bool true)]))
  (hdv:E.pure 104 [.agg [x,y,z,u],.agg [a,b,c,e]]=some (.tup [.agg [e1,e2,e3,e4],.one (.int .i64 (.ofNat 0))]))
  (hsub:E.pure 105 [.agg [lo,by_,.int .i64 (.ofNat l),.bool false],.one (.lst es),.agg (e1::e2::e3::e4::mo m3),.one q]=some (.tup [.one (.lst outs),.one (.bool true)]))
  {H:List Blk} (h0:H[0]? =some (dnB lo by_ l (.bool false))) (h10:H[it]? =some (tmK x y z u m)) {cells:List (List DL)} (h1:H[1]? =some ⟨false,0,1,cells,false,29⟩) (hn:cells.length=n) {id v:Nat} {qs:List (List PL)} (hc:cells[j]? =some [.own id v 0 qs.length]) (hid:H[id]? =some (trB v qs)) (id2:2<=id) (hqs:qs.length<1000000):
  ∃T' J,Xa E K 0 [2,7,8,9,10,32,33,34] x67_1 (k+1) ⟨[(2,.one (.ptr 0 0 0 0)),(7,.one (.own 1 0 0 n)),(8,.one r),(9,.one (.p (.lst (c0::es)))),(10,.one (.ptr it 0 0 0)),(32,.one (.p by_)),(33,.one (.p (.int .i64 (.ofNat ds.length)))),(34,.one (.p (.int .i64 (.ofNat j))))],H⟩=some (.exit 1,⟨T',(H.set id (trB (v+1) (qs++[e1::e2::e3::e4::mo m3]))).set 1 ⟨false,0,1,cells.set j [.own id (v+1) 0 (qs++[e1::e2::e3::e4::mo m3]).length],false,29⟩++J⟩)/\UB T' n r (.p (.lst outs)):=by
 have hlt:j<ds.length:=(Zb.mp hj).1
 have ip:=fun(hh:HF) (kd:IntKind)=>slD.idx (h:=hh) (k:=kd) (sz:=15) hj (by simp[dvC,Xt,hm2])
 have tm:(moD m).take 8=moD m:=Ze (by rw[Xb];omega)
 have tm3:(moD m3).take 8=moD m3:=Ze (by rw[Xb];omega)
 have dm3:(moD m3).drop 8=[]:=Zp (by rw[Xb];omega)
 have w3:=Xx m3
 have s1:=W6 (c:=c0) (es:=es) h12
 obtain⟨k1,k2,k3,k4,k5,k6,k7,k8,rfl⟩:=eight hm2
 have g10:=Xy h10
 have g0:=Xy h0
 simp only[tmK]at g10 h10
 simp only[dnB]at g0 h0
 have e8:mo [k1,k2,k3,k4,k5,k6,k7,k8]=[.int .i64 (.ofNat k1),.int .i64 (.ofNat k2),.int .i64 (.ofNat k3),.int .i64 (.ofNat k4),.int .i64 (.ofNat k5),.int .i64 (.ofNat k6),.int .i64 (.ofNat k7),.int .i64 (.ofNat k8)]:=rfl
 rw[e8]at hq
 simp only[dvC,e8,ZR,ZL]at ip
 subst hn
 have g1:=Xy h1
 have hcl:j<cells.length:=(Zb.mp hc).1
 have hidl:id<H.length:=(Zb.1 hid).1
 have st:=fun X b=>TC (H:=H) hidl X b
 have st1:=fun X b b'=>TC (H:=H.set id b) (i:=1) (by rw[Z4];exact(Zb.1 h1).1) X b'
 have g1s:∀(X:List Blk) b,(H.set id b++X)[1]? =some ⟨false,0,1,cells,false,29⟩:=fun X b=>Xy (by rw[Zz (by omega)];exact h1) X
 have gid:=Xy hid
 have f2:(qs.length+1)*128<=lim:=by unfold lim;omega
 have f3:qs.length+1<=9223372036854775807:=by omega
 have c1:(id=1)=False:=by simp;omega
 have c0':(id=0)=False:=by simp;omega
 have c2:∀x,(H.length+x<=id)=False:=fun x=>by simp;omega
 have c3:(H.length<=id)=False:=by simp;omega
 have c4:∀x,(id=H.length+x)=False:=fun x=>by simp;omega
 have c5:∀x,(H.length+x=id)=False:=fun x=>by simp;omega
 have c6:(1=id)=False:=by simp;omega
 apply exq3
 ·rw[Xa]
  simp(decide:=true)only[EVS,EVN,EVF,EVH,reduceIte,Nat.reduceEqDiff,Nat.reduceLeDiff,Nat.reduceAdd,x67_1,hmd,MDS,hlt,ip,s1,hq,hdv,hsub,g10,g0,XT,Xb,hm,hm3,tm,tm3,w3,XN,XP,Vn,T7,XK,XS,Zq,Zm,Zr,g1,hcl,hc,st,st1,g1s,gid,f2,f3,c2,c4,XR,WK,Z4]
  rfl
 ·simp only[UB,EVS,reduceIte,Nat.reduceEqDiff,and_self]
abbrev SlX:=Option (Nat×Nat×List (List PL))
def slX:SlX->DL
 |none=>.p .nilS
 |some (id,v,es)=>.own id v 0 es.length
def coX:SlX->List (List PL)
 |none=>[]
 |some (_,_,es)=>es
abbrev Ve (xs:List SlX):List (List DL):=xs.map fun x=>[slX x]
abbrev quB (c:List (List DL)):Blk:=⟨false,0,1,c,false,29⟩
structure DSt (lo by_:PL)(l:Nat)(fst:Bool)(H:List Blk)(r:SlX)(xs:List SlX):Prop where
 z0:H[0]? =some (dnB lo by_ l (.bool fst))
 z1:H[1]? =some (quB (Ve xs))
 own:∀(i id v:Nat) (es:List (List PL)),(r::xs)[i]? =some (some (id,v,es))->H[id]? =some (trB v es)/\2<=id
 inj:∀(i j id v:Nat) (es:List (List PL)) (v':Nat) (es':List (List PL)),(r::xs)[i]? =some (some (id,v,es))->(r::xs)[j]? =some (some (id,v',es'))->i=j
variable {lo by_:PL}{l:Nat}{fst:Bool}{H:List Blk}{r:SlX}{xs:List SlX}
theorem DSt.app (h:DSt lo by_ l fst H r xs)(J:List Blk):DSt lo by_ l fst (H++J) r xs:=
 ⟨Xy h.z0 J,Xy h.z1 J,fun i id v es hi=>⟨Xy (h.own i id v es hi).1 J,(h.own i id v es hi).2⟩,h.inj⟩
theorem DSt.lt (h:DSt lo by_ l fst H r xs){i id v:Nat}{es:List (List PL)}(hi:(r::xs)[i]? =some (some (id,v,es))):id<H.length:=(Zb.1 (h.own i id v es hi).1).1
theorem DSt.lt1 (h:DSt lo by_ l fst H r xs):1<H.length:=(Zb.1 h.z1).1
theorem DSt.mk' {ys:List SlX}{r':SlX}{xs':List SlX}(e:ys=r'::xs')(z0:H[0]? =some (dnB lo by_ l (.bool fst)))(z1:H[1]? =some (quB (Ve xs')))
  (own:∀(i id v:Nat) (es:List (List PL)),ys[i]? =some (some (id,v,es))->H[id]? =some (trB v es)/\2<=id) (inj:∀(i j id v:Nat) (es:List (List PL)) (v':Nat) (es':List (List PL)),ys[i]? =some (some (id,v,es))->ys[j]? =some (some (id,v',es'))->i=j):DSt lo by_ l fst H r' xs':=by
 subst e;exact⟨z0,z1,own,inj⟩
theorem DSt.grow (h:DSt lo by_ l fst H r xs){p id v:Nat}{es:List (List PL)}(hp:(r::xs)[p]? =some (some (id,v,es)))(v':Nat)(es':List (List PL)){r':SlX}{xs':List SlX}(e:(r::xs).set p (some (id,v',es'))=r'::xs'){H':List Blk}
  (hH:∀i,i≠1->H'[i]? =(H.set id (trB v' es'))[i]?) (h1:H'[1]? =some (quB (Ve xs'))):DSt lo by_ l fst H' r' xs':=by
 have hid:=h.own p id v es hp
 have hl:=h.lt hp
 refine DSt.mk' e ?_ h1 ?_ ?_
 ·rw[hH 0 (by omega),Zz (by omega)];exact h.z0
 ·intro i id2 v2 es2 hi
  rw[List.getElem?_set]at hi
  by_cases hpi:p=i
  ·rw[if_pos hpi]at hi
   split at hi
   ·simp only[Za,Zl]at hi
    obtain⟨rfl,rfl,rfl⟩:=hi
    exact⟨by rw[hH _ (by omega),Yf hl],hid.2⟩
   ·cases hi
  ·rw[if_neg hpi]at hi
   have h2:=h.own i id2 v2 es2 hi
   have hne:id≠id2:=fun e=>hpi (by subst e;exact h.inj p i id v es v2 es2 hp hi)
   exact⟨by rw[hH _ (by omega),Zz hne];exact h2.1,h2.2⟩
 ·intro i j id2 v2 es2 v3 es3 hi hj
  rw[List.getElem?_set]at hi hj
  by_cases hpi:p=i
  ·by_cases hpj:p=j
   ·omega
   ·rw[if_pos hpi]at hi
    rw[if_neg hpj]at hj
    split at hi
    ·simp only[Za,Zl]at hi
     obtain⟨rfl,rfl,rfl⟩:=hi
     exact absurd (h.inj p j id v es v3 es3 hp hj) hpj
    ·cases hi
  ·rw[if_neg hpi]at hi
   by_cases hpj:p=j
   ·rw[if_pos hpj]at hj
    split at hj
    ·simp only[Za,Zl]at hj
     obtain⟨rfl,rfl,rfl⟩:=hj
     exact absurd (h.inj i p id v2 es2 v es hi hp) (fun e=>hpi e.symm)
    ·cases hj
   ·rw[if_neg hpj]at hj
    exact h.inj i j id2 v2 es2 v3 es3 hi hj
theorem DSt.new (h:DSt lo by_ l fst H r xs){p id:Nat}(hp:(r::xs)[p]? =some none){v:Nat}{es:List (List PL)}{r':SlX}{xs':List SlX}(e:(r::xs).set p (some (id,v,es))=r'::xs'){H':List Blk}
  (hH:∀i,i≠1->i<H.length->H'[i]? =H[i]?) (h1:H'[1]? =some (quB (Ve xs'))) (hid:H.length<=id) (hb:H'[id]? =some (trB v es)):DSt lo by_ l fst H' r' xs':=by
 have l1:=h.lt1
 refine DSt.mk' e ?_ h1 ?_ ?_
 ·rw[hH 0 (by omega) (by omega)];exact h.z0
 ·intro i id2 v2 es2 hi
  rw[List.getElem?_set]at hi
  by_cases hpi:p=i
  ·rw[if_pos hpi]at hi
   split at hi
   ·simp only[Za,Zl]at hi
    obtain⟨rfl,rfl,rfl⟩:=hi
    exact⟨hb,by omega⟩
   ·cases hi
  ·rw[if_neg hpi]at hi
   have h2:=h.own i id2 v2 es2 hi
   exact⟨by rw[hH _ (by omega) (h.lt hi)];exact h2.1,h2.2⟩
 ·intro i j id2 v2 es2 v3 es3 hi hj
  rw[List.getElem?_set]at hi hj
  by_cases hpi:p=i
  ·by_cases hpj:p=j
   ·omega
   ·rw[if_pos hpi]at hi
    rw[if_neg hpj]at hj
    have:=h.lt hj
    split at hi
    ·simp only[Za,Zl]at hi
     omega
    ·cases hi
  ·rw[if_neg hpi]at hi
   have:=h.lt hi
   by_cases hpj:p=j
   ·rw[if_pos hpj]at hj
    split at hj
    ·simp only[Za,Zl]at hj
     omega
    ·cases hj
   ·rw[if_neg hpj]at hj
    exact h.inj i j id2 v2 es2 v3 es3 hi hj
def SkipD (E:Oracle)(m:List Nat)(d:List PL):Prop:=∃a b c e m2 p q ix,d=dvC a b c e m2 p q ix/\m2.length=8/\E.pure 103 [.agg (mo m),.agg (mo m2)]=some (.tup [.agg (mo Tk),.one (.bool false)])
inductive HitD (E:Oracle)(lo by_:PL)(l:Nat)(fst:Bool)(x y z u:PL)(m:List Nat)(es:List (List PL)):List PL->List PL->List (List PL)->Prop
 |mk {a b c e p q e1 e2 e3 e4:PL} {m2 m3:List Nat} {ix:Nat} {outs:List (List PL)} (hm2:m2.length=8) (hm3:m3.length=8)
  (hq:E.pure 103 [.agg (mo m),.agg (mo m2)]=some (.tup [.agg (mo m3),.one (.bool true)]))
  (hdv:E.pure 104 [.agg [x,y,z,u],.agg [a,b,c,e]]=some (.tup [.agg [e1,e2,e3,e4],.one (.int .i64 (.ofNat 0))]))
  (hsub:E.pure 105 [.agg [lo,by_,.int .i64 (.ofNat l),.bool fst],.one (.lst es),.agg (e1::e2::e3::e4::mo m3),.one q]=some (.tup [.one (.lst outs),.one (.bool true)])):
   HitD E lo by_ l fst x y z u m es (dvC a b c e m2 p q ix) (e1::e2::e3::e4::mo m3) outs
abbrev inS (n:Nat)(r:DL)(lp by_:PL)(it nd j:Nat):List (Nat×DV):=[(2,.one (.ptr 0 0 0 0)),(7,.one (.own 1 0 0 n)),(8,.one r),(9,.one (.p lp)),(10,.one (.ptr it 0 0 0)),(32,.one (.p by_)),(33,.one (.p (.int .i64 (.ofNat nd)))),(34,.one (.p (.int .i64 (.ofNat j))))]
theorem dvd_find {E:Oracle}{K n it:Nat}(hmd:E.mode=md){r:DL}{lp by_:PL}{ds:List (List PL)}(slD:Sl by_ ds)(hnd:ds.length<1000000){m:List Nat}(hm:m.length=8){x y z u:PL}:∀(c i k:Nat) (H:List Blk),(∀j,i<=j->j<i+c->∃d,ds[j]? =some d/\SkipD E m d)->H[it]? =some (tmK x y z u m)->
  ∃J,Xa E K 0 [2,7,8,9,10,32,33,34] x67_1 (k+c) ⟨inS n r lp by_ it ds.length i,H⟩=Xa E K 0 [2,7,8,9,10,32,33,34] x67_1 k ⟨inS n r lp by_ it ds.length (i+c),H++J⟩
 |0,i,k,H,_,_=>⟨[],by rw[ZO];rfl⟩
 |c+1,i,k,H,hs,h10=>by
  obtain⟨d,hd,a,b,c',e,m2,p,q,ix,rfl,hm2,hq⟩:=hs i (Zg _) (by omega)
  obtain⟨J1,g1⟩:=dvd_skip (K:=K) (k:=k+c) (n:=n) (r:=r) (lp:=lp) hmd slD hnd hd hm hm2 hq h10
  obtain⟨J2,g2⟩:=dvd_find hmd slD hnd hm c (i+1) k (H++J1) (fun j h1 h2=>hs j (by omega) (by omega)) (Xy h10 J1)
  refine⟨J1++J2,?_⟩
  rw[<-Zq,show i+(c+1)=i+1+c by omega]
  exact g1.trans g2
theorem dvd_end {E:Oracle}{K k n it:Nat}{r:DL}{lp by_:PL}{nd:Nat}(H:List Blk):
  ∃T',Xa E K 0 [2,7,8,9,10,32,33,34] x67_1 (k+1) ⟨inS n r lp by_ it nd nd,H⟩=some (.exit 2,⟨T',H⟩)/\UB T' n r (.p lp)/\Xf T' 10=some (.one (.ptr it 0 0 0)):=by
 apply ex1
 ·rw[Xa]
  simp only[EVS,EVN,reduceIte,Nat.reduceEqDiff,x67_1,ZA]
  rfl
 ·simp only[UB,EVS,reduceIte,Nat.reduceEqDiff,and_self]
theorem cells_get {xs:List SlX}{j:Nat}{x:SlX}(h:xs[j]? =some x):(Ve xs)[j]? =some [slX x]:=by simp[Ve,h]
theorem cells_set (xs:List SlX)(j:Nat)(x:SlX):(Ve xs).set j [slX x]=Ve (xs.set j x):=by simp[Ve,List.map_set]
def nextX (fst:Bool)(cs:List (List (List PL)))(j:Nat)(t:List PL):List (List (List PL)):=match fst with
 |true=>cs
 |false=>match cs[j]? with
  |some q=>cs.set j (q++[t])
  |none=>cs
theorem dvd_hit {E:Oracle}{K k j it:Nat}(hmd:E.mode=md){ds es:List (List PL)}{c0:List PL}(slD:Sl by_ ds)(hnd:ds.length<1000000)(hxs:xs.length=ds.length){m:List Nat}{x y z u:PL}{d term:List PL}{outs:List (List PL)}(hj:ds[j]? =some d)(hm:m.length=8)(h12:∀d∈es,d.length=12)
  (hd:HitD E lo by_ l fst x y z u m es d term outs) (h10:H[it]? =some (tmK x y z u m)) (hs:DSt lo by_ l fst H r xs) (hc:∀x∈xs,(coX x).length<1000000):
  ∃T' H' xs',Xa E K 0 [2,7,8,9,10,32,33,34] x67_1 (k+1) ⟨inS xs.length (slX r) (.lst (c0::es)) by_ it ds.length j,H⟩=some (.exit 1,⟨T',H'⟩)/\UB T' xs.length (slX r) (.p (.lst outs))/\DSt lo by_ l fst H' r xs'/\xs'.map coX=nextX fst (xs.map coX) j term/\xs'.length=xs.length:=by
 obtain @⟨a,b,c,e,p,q,e1,e2,e3,e4,m2,m3,ix,outs,hm2,hm3,hq,hdv,hsub⟩:=hd
 have hjl:j<xs.length:=by rw[hxs];exact(Zb.1 hj).1
 cases fst with
 |true=>
  obtain⟨T',J,g1,g2⟩:=dvd_hit1 (K:=K) (k:=k) (n:=xs.length) (r:=slX r) hmd slD hnd hj hm hm2 hm3 h12 hq hdv hsub hs.z0 h10
  exact⟨T',_,xs,g1,g2,hs.app J,rfl,rfl⟩
 |false=>
  obtain⟨x,hx⟩:∃x,xs[j]? =some x:=⟨_,Zf hjl⟩
  have hxc:=cells_get hx
  have hcl:(Ve xs).length=xs.length:=by simp
  have hj1:(r::xs)[j+1]? =some x:=by rw[Yy];exact hx
  have hnx:∀t,nextX false (xs.map coX) j t=(xs.map coX).set j (coX x++[t]):=fun t=>by
   simp only[nextX,Zv,hx,ZS]
  cases x with
  |none=>
   obtain⟨T',J,g1,g2,g3⟩:=dvd_hitN (K:=K) (k:=k) (n:=xs.length) (r:=slX r) hmd slD hnd hj hm hm2 hm3 h12 hq hdv hsub hs.z0 h10 hs.z1 hcl hxc
   refine⟨T',_,_,g1,g2,hs.new (p:=j+1) (id:=H.length+4) (v:=0) (es:=[e1::e2::e3::e4::mo m3]) hj1 (r':=r) (by rw[List.set_cons_succ]) (fun i hi hl=> ?_) ?_ (by omega) ?_,?_,by rw[Z4]⟩
   ·rw[Zy (by rw[Z4];exact hl),Zz (fun e=>hi e.symm)]
   ·rw[Zy (by rw[Z4];exact hs.lt1),Yf hs.lt1,<-cells_set];rfl
   ·rw[ZB (by rw[Z4];omega),Z4,Yx];exact g3
   ·rw[hnx,List.map_set];rfl
  |some q=>
   obtain⟨id,v,qs⟩:=q
   have h2:=hs.own (j+1) id v qs hj1
   have hql:=hc _ (Zu hx)
   obtain⟨T',J,g1,g2⟩:=dvd_hitO (K:=K) (k:=k) (n:=xs.length) (r:=slX r) hmd slD hnd hj hm hm2 hm3 h12 hq hdv hsub hs.z0 h10 hs.z1 hcl (id:=id) (v:=v) (qs:=qs) hxc h2.1 h2.2 hql
   have hl1:1<(H.set id (trB (v+1) (qs++[e1::e2::e3::e4::mo m3]))).length:=by rw[Z4];exact hs.lt1
   refine⟨T',_,_,g1,g2,hs.app J|>.grow (p:=j+1) (id:=id) (v:=v) (es:=qs) hj1 (v+1) (qs++[e1::e2::e3::e4::mo m3]) (r':=r) (by rw[List.set_cons_succ]) (fun i hi=> ?_) ?_,?_,by rw[Z4]⟩
   ·rw[TC (hs.lt hj1),List.getElem?_append,List.getElem?_append,Z4,Zz (fun e=>hi e.symm)]
   ·rw[Zy (by rw[Z4];exact hl1),Yf hl1,<-cells_set];rfl
   ·rw[hnx,List.map_set];rfl
end Go.Proofs.YtefpgecinlekpaaGreat
namespace Go.Proofs.YtefpgecinlekpaaGreat
open Go.Ev Go.Num
theorem dvd_remN0 {E:Oracle}{K k n l:Nat}(hmd:E.mode=md){lo by_:PL}{ds es:List (List PL)}(slD:Sl by_ ds)(hnd:ds.length<1000000){m:List Nat}(hm:m.length=8)(h12:∀d∈es,d.length=12){x y z u:PL}{H H2:List Blk}{T:List (Nat×DV)}
  (z0:H[0]? =some (dnB lo by_ l (.bool false))) (hx:Xa E K 0 [2,7,8,9,10,32,33,34] x67_1 K ⟨inS n (.p .nilS) (.lst ((x::y::z::u::mo m)::es)) by_ H.length ds.length 0,H++[tmK x y z u m]⟩=some (.exit 2,⟨T,H2⟩)) (hsl:UB T n (.p .nilS) (.p (.lst ((x::y::z::u::mo m)::es)))) (ht:Xf T 10=some (.one (.ptr H.length 0 0 0)))
  (h10:H2[H.length]? =some (tmK x y z u m)) (z2:H2[0]? =some (dnB lo by_ l (.bool false))):
  ∃J,Xa E K 0 [2,7,8,9] x67_2 (k+1) ⟨[(2,.one (.ptr 0 0 0 0)),(7,.one (.own 1 0 0 n)),(8,.one (.p .nilS)),(9,.one (.p (.lst ((x::y::z::u::mo m)::es))))],H⟩=Xa E K 0 [2,7,8,9] x67_2 k ⟨[(2,.one (.ptr 0 0 0 0)),(7,.one (.own 1 0 0 n)),(8,.one (.own (H2.length+1) 0 0 1)),(9,.one (.p (.lst es)))],H2++J⟩/\J[1]? =some (trB 0 [x::y::z::u::mo m]):=by
 obtain⟨s2,s7,s8,s9⟩:=hsl
 have sl:Sl (.lst ((x::y::z::u::mo m)::es)) _:=.lst
 have hlen:=sl.len
 have ip:=fun(hh:HF) (kd:IntKind)=>sl.idx (h:=hh) (k:=kd) (i:=0) (sz:=12) rfl (by simp[Xt,hm])
 have s1:=W6 (c:=x::y::z::u::mo m) (es:=es) h12
 have tm:(moD m).take 8=moD m:=Ze (by rw[Xb];omega)
 have dm:(moD m).drop 8=[]:=Zp (by rw[Xb];omega)
 have w:=Xx m
 have g0:=Xy z0
 have g2:=Xy z2
 have g10:=Xy h10
 have hdl:=slD.len
 simp only[tmK]at g10 h10 hx
 simp only[dnB]at g0 z0 g2 z2
 have han:∀(n:Nat) (c:List DL) (ids:List Nat),X8 63 12 128 n [c] ids=some ⟨.one (.own n 0 0 1),[⟨false,0,12,[c],false,63⟩],[],ids⟩:=fun _ _ _=>rfl
 apply Exists.intro
 refine⟨?_,?_⟩
 ·rw[Xa]
  simp(decide:=true)only[EVS,EVN,reduceIte,Nat.reduceAdd,x67_2,XT,Xb,XK,XS,Zq,Zm,Zr,YA,hlen,ip,s1,tm,g0,g2,h10,hdl,hx,s2,s7,s8,s9,ht,hm,han]
  rfl
 ·simp only[Yy,YL,trB,pc,XT,Zx,ZZ]
theorem dvd_remN1 {E:Oracle}{K k n l:Nat}(hmd:E.mode=md){lo by_:PL}{ds es:List (List PL)}(slD:Sl by_ ds)(hnd:ds.length<1000000){m:List Nat}(hm:m.length=8)(h12:∀d∈es,d.length=12){x y z u:PL}{H H2:List Blk}{T:List (Nat×DV)}
  (z0:H[0]? =some (dnB lo by_ l (.bool true))) (hx:Xa E K 0 [2,7,8,9,10,32,33,34] x67_1 K ⟨inS n (.p .nilS) (.lst ((x::y::z::u::mo m)::es)) by_ H.length ds.length 0,H++[tmK x y z u m]⟩=some (.exit 2,⟨T,H2⟩)) (hsl:UB T n (.p .nilS) (.p (.lst ((x::y::z::u::mo m)::es)))) (ht:Xf T 10=some (.one (.ptr H.length 0 0 0)))
  (h10:H2[H.length]? =some (tmK x y z u m)) (z2:H2[0]? =some (dnB lo by_ l (.bool true))):
  ∃T' J,Xa E K 0 [2,7,8,9] x67_2 (k+1) ⟨[(2,.one (.ptr 0 0 0 0)),(7,.one (.own 1 0 0 n)),(8,.one (.p .nilS)),(9,.one (.p (.lst ((x::y::z::u::mo m)::es))))],H⟩=some (.exit 0,⟨T',H2++J⟩)/\(Xf T' 7=some (.one (.own 1 0 0 n))/\Xf T' 8=some (.one (.own (H2.length+1) 0 0 1)))/\J[1]? =some (trB 0 [x::y::z::u::mo m]):=by
 obtain⟨s2,s7,s8,s9⟩:=hsl
 have sl:Sl (.lst ((x::y::z::u::mo m)::es)) _:=.lst
 have hlen:=sl.len
 have ip:=fun(hh:HF) (kd:IntKind)=>sl.idx (h:=hh) (k:=kd) (i:=0) (sz:=12) rfl (by simp[Xt,hm])
 have s1:=W6 (c:=x::y::z::u::mo m) (es:=es) h12
 have tm:(moD m).take 8=moD m:=Ze (by rw[Xb];omega)
 have dm:(moD m).drop 8=[]:=Zp (by rw[Xb];omega)
 have w:=Xx m
 have g0:=Xy z0
 have g2:=Xy z2
 have g10:=Xy h10
 have hdl:=slD.len
 simp only[tmK]at g10 h10 hx
 simp only[dnB]at g0 z0 g2 z2
 have han:∀(n:Nat) (c:List DL) (ids:List Nat),X8 63 12 128 n [c] ids=some ⟨.one (.own n 0 0 1),[⟨false,0,12,[c],false,63⟩],[],ids⟩:=fun _ _ _=>rfl
 apply exq4
 ·rw[Xa]
  simp(decide:=true)only[EVS,EVN,reduceIte,Nat.reduceAdd,x67_2,XT,Xb,XK,XS,Zq,Zm,Zr,YA,hlen,ip,tm,g0,g2,h10,hdl,hx,s2,s7,s8,s9,ht,hm,han]
  rfl
 ·simp only[EVS,reduceIte,Nat.reduceEqDiff,and_self]
 ·simp only[Yy,YL,trB,pc,XT,Zx,ZZ]
theorem dvd_remO0 {E:Oracle}{K k n l:Nat}(hmd:E.mode=md){lo by_:PL}{ds es:List (List PL)}(slD:Sl by_ ds)(hnd:ds.length<1000000){m:List Nat}(hm:m.length=8)(h12:∀d∈es,d.length=12){x y z u:PL}{H H2:List Blk}{T:List (Nat×DV)}{id v:Nat}{qs:List (List PL)}(hid:H2[id]? =some (trB v qs))(hqs:qs.length<1000000)
  (z0:H[0]? =some (dnB lo by_ l (.bool false))) (hx:Xa E K 0 [2,7,8,9,10,32,33,34] x67_1 K ⟨inS n (.own id v 0 qs.length) (.lst ((x::y::z::u::mo m)::es)) by_ H.length ds.length 0,H++[tmK x y z u m]⟩=some (.exit 2,⟨T,H2⟩)) (hsl:UB T n (.own id v 0 qs.length) (.p (.lst ((x::y::z::u::mo m)::es)))) (ht:Xf T 10=some (.one (.ptr H.length 0 0 0)))
  (h10:H2[H.length]? =some (tmK x y z u m)) (z2:H2[0]? =some (dnB lo by_ l (.bool false))):
  ∃J,Xa E K 0 [2,7,8,9] x67_2 (k+1) ⟨[(2,.one (.ptr 0 0 0 0)),(7,.one (.own 1 0 0 n)),(8,.one (.own id v 0 qs.length)),(9,.one (.p (.lst ((x::y::z::u::mo m)::es))))],H⟩=Xa E K 0 [2,7,8,9] x67_2 k ⟨[(2,.one (.ptr 0 0 0 0)),(7,.one (.own 1 0 0 n)),(8,.one (.own id (v+1) 0 (qs++[x::y::z::u::mo m]).length)),(9,.one (.p (.lst es)))],H2.set id (trB (v+1) (qs++[x::y::z::u::mo m]))++J⟩:=by
 obtain⟨s2,s7,s8,s9⟩:=hsl
 have sl:Sl (.lst ((x::y::z::u::mo m)::es)) _:=.lst
 have hlen:=sl.len
 have ip:=fun(hh:HF) (kd:IntKind)=>sl.idx (h:=hh) (k:=kd) (i:=0) (sz:=12) rfl (by simp[Xt,hm])
 have s1:=W6 (c:=x::y::z::u::mo m) (es:=es) h12
 have tm:(moD m).take 8=moD m:=Ze (by rw[Xb];omega)
 have dm:(moD m).drop 8=[]:=Zp (by rw[Xb];omega)
 have w:=Xx m
 have g0:=Xy z0
 have g2:=Xy z2
 have g10:=Xy h10
 have hdl:=slD.len
 simp only[tmK]at g10 h10 hx
 simp only[dnB]at g0 z0 g2 z2
 have st:=fun X b=>TC (H:=H2) (Zb.1 hid).1 X b
 have gid:=Xy hid
 have f2:(qs.length+1)*128<=lim:=by unfold lim;omega
 have f3:qs.length+1<=9223372036854775807:=by omega
 have z2s:∀b X,id≠0->(H2.set id b++X)[0]? =some ⟨false,0,4,[[.p lo,.p by_,.p (.int .i64 (.ofNat l)),.p (.bool false)]],false,94⟩:=fun b X h0=>Xy (by rw[Zz (by omega)];exact z2) X
 have hid0:id≠0:=by
  rintro rfl
  rw[z2]at hid
  cases hid
 apply Exists.intro
 rw[Xa]
 simp(decide:=true)only[EVS,EVN,reduceIte,Nat.reduceAdd,x67_2,XT,Xb,XK,XS,Zm,Zr,YA,hlen,ip,s1,tm,g0,h10,hdl,hx,s2,s7,s8,s9,ht,hm,st,gid,f2,f3,XR,WK,z2s _ _ hid0]
 rfl
theorem dvd_remO1 {E:Oracle}{K k n l:Nat}(hmd:E.mode=md){lo by_:PL}{ds es:List (List PL)}(slD:Sl by_ ds)(hnd:ds.length<1000000){m:List Nat}(hm:m.length=8)(h12:∀d∈es,d.length=12){x y z u:PL}{H H2:List Blk}{T:List (Nat×DV)}{id v:Nat}{qs:List (List PL)}(hid:H2[id]? =some (trB v qs))(hqs:qs.length<1000000)
  (z0:H[0]? =some (dnB lo by_ l (.bool true))) (hx:Xa E K 0 [2,7,8,9,10,32,33,34] x67_1 K ⟨inS n (.own id v 0 qs.length) (.lst ((x::y::z::u::mo m)::es)) by_ H.length ds.length 0,H++[tmK x y z u m]⟩=some (.exit 2,⟨T,H2⟩)) (hsl:UB T n (.own id v 0 qs.length) (.p (.lst ((x::y::z::u::mo m)::es)))) (ht:Xf T 10=some (.one (.ptr H.length 0 0 0)))
  (h10:H2[H.length]? =some (tmK x y z u m)) (z2:H2[0]? =some (dnB lo by_ l (.bool true))):
  ∃T' J,Xa E K 0 [2,7,8,9] x67_2 (k+1) ⟨[(2,.one (.ptr 0 0 0 0)),(7,.one (.own 1 0 0 n)),(8,.one (.own id v 0 qs.length)),(9,.one (.p (.lst ((x::y::z::u::mo m)::es))))],H⟩=some (.exit 0,⟨T',H2.set id (trB (v+1) (qs++[x::y::z::u::mo m]))++J⟩)/\(Xf T' 7=some (.one (.own 1 0 0 n))/\Xf T' 8=some (.one (.own id (v+1) 0 (qs++[x::y::z::u::mo m]).length))):=by
 obtain⟨s2,s7,s8,s9⟩:=hsl
 have sl:Sl (.lst ((x::y::z::u::mo m)::es)) _:=.lst
 have hlen:=sl.len
 have ip:=fun(hh:HF) (kd:IntKind)=>sl.idx (h:=hh) (k:=kd) (i:=0) (sz:=12) rfl (by simp[Xt,hm])
 have s1:=W6 (c:=x::y::z::u::mo m) (es:=es) h12
 have tm:(moD m).take 8=moD m:=Ze (by rw[Xb];omega)
 have dm:(moD m).drop 8=[]:=Zp (by rw[Xb];omega)
 have w:=Xx m
 have g0:=Xy z0
 have g2:=Xy z2
 have g10:=Xy h10
 have hdl:=slD.len
 simp only[tmK]at g10 h10 hx
 simp only[dnB]at g0 z0 g2 z2
 have st:=fun X b=>TC (H:=H2) (Zb.1 hid).1 X b
 have gid:=Xy hid
 have f2:(qs.length+1)*128<=lim:=by unfold lim;omega
 have f3:qs.length+1<=9223372036854775807:=by omega
 have z2s:∀b X,id≠0->(H2.set id b++X)[0]? =some ⟨false,0,4,[[.p lo,.p by_,.p (.int .i64 (.ofNat l)),.p (.bool true)]],false,94⟩:=fun b X h0=>Xy (by rw[Zz (by omega)];exact z2) X
 have hid0:id≠0:=by
  rintro rfl
  rw[z2]at hid
  cases hid
 apply exq3
 ·rw[Xa]
  simp(decide:=true)only[EVS,EVN,reduceIte,Nat.reduceAdd,x67_2,XT,Xb,XK,XS,Zm,Zr,YA,hlen,ip,tm,g0,h10,hdl,hx,s2,s7,s8,s9,ht,hm,st,gid,f2,f3,XR,WK,z2s _ _ hid0]
  rfl
 ·simp only[EVS,reduceIte,Nat.reduceEqDiff,and_self,Zm]
end Go.Proofs.YtefpgecinlekpaaGreat
