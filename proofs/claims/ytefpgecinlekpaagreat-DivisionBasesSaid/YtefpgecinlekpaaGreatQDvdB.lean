/- Division: divide, the loop. -/
import Derived.Test.YtefpgecinlekpaaGreatQDvd
set_option maxHeartbeats 16000000
set_option maxRecDepth 100000
namespace Go.Proofs.YtefpgecinlekpaaGreat
open Go.Ev Go.Num
theorem dvd_div {E:Oracle}{K k n l:Nat}{fst:Bool}(hmd:E.mode=md){lo by_:PL}{ds es:List (List PL)}(slD:Sl by_ ds){m:List Nat}(hm:m.length=8){x y z u:PL}{H H2:List Blk}{T:List (Nat×DV)}{r:DL}{outs:List (List PL)}
  (z0:H[0]? =some (dnB lo by_ l (.bool fst))) (hx:Xa E K 0 [2,7,8,9,10,32,33,34] x67_1 K ⟨inS n r (.lst ((x::y::z::u::mo m)::es)) by_ H.length ds.length 0,H++[tmK x y z u m]⟩=some (.exit 1,⟨T,H2⟩)) (hsl:UB T n r (.p (.lst outs))):
  Xa E K 0 [2,7,8,9] x67_2 (k+1) ⟨[(2,.one (.ptr 0 0 0 0)),(7,.one (.own 1 0 0 n)),(8,.one r),(9,.one (.p (.lst ((x::y::z::u::mo m)::es))))],H⟩=Xa E K 0 [2,7,8,9] x67_2 k ⟨[(2,.one (.ptr 0 0 0 0)),(7,.one (.own 1 0 0 n)),(8,.one r),(9,.one (.p (.lst outs)))],H2⟩:=by
 obtain⟨s2,s7,s8,s9⟩:=hsl
 have sl:Sl (.lst ((x::y::z::u::mo m)::es)) _:=.lst
 have hlen:=sl.len
 have ip:=fun(hh:HF) (kd:IntKind)=>sl.idx (h:=hh) (k:=kd) (i:=0) (sz:=12) rfl (by simp[Xt,hm])
 have tm:(moD m).take 8=moD m:=Ze (by rw[Xb];omega)
 have dm:(moD m).drop 8=[]:=Zp (by rw[Xb];omega)
 have w:=Xx m
 have g0:=Xy z0
 have hdl:=slD.len
 simp only[tmK]at hx
 simp only[dnB]at g0 z0
 rw[Xa]
 simp(decide:=true)only[EVS,EVN,reduceIte,Nat.reduceAdd,x67_2,XT,Xb,XK,XS,Zm,Zr,YA,hlen,ip,tm,g0,hdl,hx,s2,s7,s8,s9,hm,Nat.reduceBEq,BEq.rfl]
abbrev outS (n:Nat)(r:DL)(lp:PL):List (Nat×DV):=[(2,.one (.ptr 0 0 0 0)),(7,.one (.own 1 0 0 n)),(8,.one r),(9,.one (.p lp))]
theorem dvd_done {E:Oracle}{K k n:Nat}{r:DL}{lp:PL}(sl:Sl lp [])(H:List Blk):
  ∃T',Xa E K 0 [2,7,8,9] x67_2 (k+1) ⟨outS n r lp,H⟩=some (.exit 0,⟨T',H⟩)/\Xf T' 7=some (.one (.own 1 0 0 n))/\Xf T' 8=some (.one r):=by
 have hlen:=sl.len
 apply ex1
 ·rw[Xa]
  simp only[EVS,EVN,reduceIte,Nat.reduceEqDiff,x67_2,hlen,ZA]
  rfl
 ·simp only[EVS,reduceIte,Nat.reduceEqDiff,and_self]
inductive RunV (E:Oracle)(lo by_:PL)(l:Nat)(fst:Bool)(ds:List (List PL)):Nat->List (List PL)->List (List (List PL))->List (List PL)->List (List (List PL))->List (List PL)->Prop
 |done {cs:List (List (List PL))} {r:List (List PL)}:RunV E lo by_ l fst ds 0 [] cs r cs r
 |rem0 {n:Nat} {cs cs':List (List (List PL))} {r r' es:List (List PL)} {x y z u:PL} {m:List Nat} (hf:fst=false) (hm:m.length=8) (h12:∀d∈es,d.length=12) (hr:r.length<1000000)
   (hs:∀j,j<ds.length->∃d,ds[j]? =some d/\SkipD E m d) (h:RunV E lo by_ l fst ds n es cs (r++[x::y::z::u::mo m]) cs' r'):RunV E lo by_ l fst ds (n+1) ((x::y::z::u::mo m)::es) cs r cs' r'
 |rem1 {cs:List (List (List PL))} {r es:List (List PL)} {x y z u:PL} {m:List Nat} (hf:fst=true) (hm:m.length=8) (h12:∀d∈es,d.length=12) (hr:r.length<1000000)
   (hs:∀j,j<ds.length->∃d,ds[j]? =some d/\SkipD E m d):RunV E lo by_ l fst ds 1 ((x::y::z::u::mo m)::es) cs r cs (r++[x::y::z::u::mo m])
 |div {n j:Nat} {cs cs':List (List (List PL))} {r r' es outs:List (List PL)} {d t:List PL} {x y z u:PL} {m:List Nat} (hm:m.length=8) (h12:∀d∈es,d.length=12) (hj:ds[j]? =some d)
   (hs:∀i,i<j->∃d,ds[i]? =some d/\SkipD E m d) (hd:HitD E lo by_ l fst x y z u m es d t outs) (hc:∀c∈cs,c.length<1000000) (h:RunV E lo by_ l fst ds n outs (nextX fst cs j t) r cs' r'):RunV E lo by_ l fst ds (n+1) ((x::y::z::u::mo m)::es) cs r cs' r'
theorem dvd_go {E:Oracle}{K l:Nat}{fst:Bool}(hmd:E.mode=md){lo by_:PL}{ds:List (List PL)}(slD:Sl by_ ds)(hnd:ds.length<1000000)(hK:ds.length<K){n:Nat}{left:List (List PL)}{cs cs':List (List (List PL))}{rc rc':List (List PL)}(h:RunV E lo by_ l fst ds n left cs rc cs' rc'):
  ∀(k:Nat) (lp:PL) (H:List Blk) (r:SlX) (xs:List SlX),n<k->Sl lp left->DSt lo by_ l fst H r xs->xs.length=ds.length->xs.map coX=cs->coX r=rc->
   ∃T' H' r' xs',Xa E K 0 [2,7,8,9] x67_2 k ⟨outS ds.length (slX r) lp,H⟩=some (.exit 0,⟨T',H'⟩)/\(Xf T' 7=some (.one (.own 1 0 0 ds.length))/\Xf T' 8=some (.one (slX r')))/\DSt lo by_ l fst H' r' xs'/\xs'.length=ds.length/\xs'.map coX=cs'/\coX r'=rc':=by
 induction h with
 |done=>
  intro k lp H r xs hk sl hs hxs e1 e2
  obtain⟨k,rfl⟩:∃k',k=k'+1:=⟨k-1,by omega⟩
  obtain⟨T',g1,g2⟩:=dvd_done (E:=E) (K:=K) (k:=k) (n:=ds.length) (r:=slX r) sl H
  exact⟨T',H,r,xs,g1,g2,hs,hxs,e1,e2⟩
 |@rem0 n cs cs' rc rc' es x y z u m hf hm h12 hr hsk h ih=>
  intro k lp H r xs hk sl hs hxs e1 e2
  obtain⟨k,rfl⟩:∃k',k=k'+1:=⟨k-1,by omega⟩
  obtain rfl:=Sl.WL sl
  subst hf
  obtain⟨J,j1⟩:=dvd_find (K:=K) (n:=ds.length) (it:=H.length) (r:=slX r) (lp:=.lst ((x::y::z::u::mo m)::es)) hmd slD hnd hm ds.length 0 (K-ds.length) (H++[tmK x y z u m]) (fun j _ h=>hsk j (by omega)) (by rw[XK])
  rw[Nat.sub_add_cancel (by omega),ZY]at j1
  obtain⟨T,j2,j3,j4⟩:=dvd_end (E:=E) (K:=K) (k:=K-ds.length-1) (n:=ds.length) (it:=H.length) (r:=slX r) (lp:=.lst ((x::y::z::u::mo m)::es)) (by_:=by_) (nd:=ds.length) (H++[tmK x y z u m]++J)
  rw[show K-ds.length-1+1=K-ds.length by omega]at j2
  have hx:=j1.trans j2
  have hs2:=(hs.app [tmK x y z u m]).app J
  have h10:(H++[tmK x y z u m]++J)[H.length]? =some (tmK x y z u m):=Xy (by rw[XK]) J
  have hr0:(r::xs)[0]? =some r:=rfl
  cases r with
  |none=>
   obtain⟨J2,g1,g2⟩:=dvd_remN0 (K:=K) (k:=k) hmd slD hnd hm h12 hs.z0 hx j3 j4 h10 hs2.z0
   have hs3:=hs2.new (p:=0) (id:=(H++[tmK x y z u m]++J).length+1) (v:=0) (es:=[x::y::z::u::mo m]) hr0 (r':=some (_,0,[_])) (xs':=xs) rfl (H':=H++[tmK x y z u m]++J++J2) (fun i _ hl=>Zy hl) (Xy hs2.z1 J2) (by omega) (by rw[Vn];exact g2)
   obtain⟨T',H',r',xs',k1,k2⟩:=ih k (.lst es) _ _ xs (by omega) .lst hs3 hxs e1 (by rw[<-e2];rfl)
   exact⟨T',H',r',xs',g1.trans k1,k2⟩
  |some q=>
   obtain⟨id,v,qs⟩:=q
   have e2':qs=rc:=e2
   have ho:=hs2.own 0 id v qs hr0
   obtain⟨J2,g1⟩:=dvd_remO0 (K:=K) (k:=k) hmd slD hnd hm h12 ho.1 (by rw[e2'];exact hr) hs.z0 hx j3 j4 h10 hs2.z0
   have hl:=hs2.lt hr0
   have hs3:=hs2.grow (p:=0) hr0 (v+1) (qs++[x::y::z::u::mo m]) (r':=some (id,v+1,qs++[_])) (xs':=xs) rfl (H':=(H++[tmK x y z u m]++J).set id (trB (v+1) (qs++[x::y::z::u::mo m]))) (fun i _=>rfl) (by rw[Zz (by have:=ho.2;omega)];exact hs2.z1)
   obtain⟨T',H',r',xs',k1,k2⟩:=ih k (.lst es) _ _ xs (by omega) .lst (hs3.app J2) hxs e1 (by rw[<-e2'];rfl)
   exact⟨T',H',r',xs',g1.trans k1,k2⟩
 |@rem1 cs rc es x y z u m hf hm h12 hr hsk=>
  intro k lp H r xs hk sl hs hxs e1 e2
  obtain⟨k,rfl⟩:∃k',k=k'+1:=⟨k-1,by omega⟩
  obtain rfl:=Sl.WL sl
  subst hf
  obtain⟨J,j1⟩:=dvd_find (K:=K) (n:=ds.length) (it:=H.length) (r:=slX r) (lp:=.lst ((x::y::z::u::mo m)::es)) hmd slD hnd hm ds.length 0 (K-ds.length) (H++[tmK x y z u m]) (fun j _ h=>hsk j (by omega)) (by rw[XK])
  rw[Nat.sub_add_cancel (by omega),ZY]at j1
  obtain⟨T,j2,j3,j4⟩:=dvd_end (E:=E) (K:=K) (k:=K-ds.length-1) (n:=ds.length) (it:=H.length) (r:=slX r) (lp:=.lst ((x::y::z::u::mo m)::es)) (by_:=by_) (nd:=ds.length) (H++[tmK x y z u m]++J)
  rw[show K-ds.length-1+1=K-ds.length by omega]at j2
  have hx:=j1.trans j2
  have hs2:=(hs.app [tmK x y z u m]).app J
  have h10:(H++[tmK x y z u m]++J)[H.length]? =some (tmK x y z u m):=Xy (by rw[XK]) J
  have hr0:(r::xs)[0]? =some r:=rfl
  cases r with
  |none=>
   obtain⟨T',J2,g1,g2,g3⟩:=dvd_remN1 (K:=K) (k:=k) hmd slD hnd hm h12 hs.z0 hx j3 j4 h10 hs2.z0
   have hs3:=hs2.new (p:=0) (id:=(H++[tmK x y z u m]++J).length+1) (v:=0) (es:=[x::y::z::u::mo m]) hr0 (r':=some (_,0,[_])) (xs':=xs) rfl (H':=H++[tmK x y z u m]++J++J2) (fun i _ hl=>Zy hl) (Xy hs2.z1 J2) (by omega) (by rw[Vn];exact g3)
   exact⟨T',_,some ((H++[tmK x y z u m]++J).length+1,0,[x::y::z::u::mo m]),xs,g1,g2,hs3,hxs,e1,by rw[<-e2];rfl⟩
  |some q=>
   obtain⟨id,v,qs⟩:=q
   have e2':qs=rc:=e2
   have ho:=hs2.own 0 id v qs hr0
   obtain⟨T',J2,g1,g2⟩:=dvd_remO1 (K:=K) (k:=k) hmd slD hnd hm h12 ho.1 (by rw[e2'];exact hr) hs.z0 hx j3 j4 h10 hs2.z0
   have hl:=hs2.lt hr0
   have hs3:=hs2.grow (p:=0) hr0 (v+1) (qs++[x::y::z::u::mo m]) (r':=some (id,v+1,qs++[_])) (xs':=xs) rfl (H':=(H++[tmK x y z u m]++J).set id (trB (v+1) (qs++[x::y::z::u::mo m]))) (fun i _=>rfl) (by rw[Zz (by have:=ho.2;omega)];exact hs2.z1)
   exact⟨T',_,some (id,v+1,qs++[x::y::z::u::mo m]),xs,g1,g2,hs3.app J2,hxs,e1,by rw[<-e2'];rfl⟩
 |@div n j cs cs' rc rc' es outs d t x y z u m hm h12 hj hsk hd hc h ih=>
  intro k lp H r xs hk sl hs hxs e1 e2
  obtain⟨k,rfl⟩:∃k',k=k'+1:=⟨k-1,by omega⟩
  obtain rfl:=Sl.WL sl
  have hjl:j<ds.length:=(Zb.1 hj).1
  obtain⟨J,j1⟩:=dvd_find (K:=K) (n:=ds.length) (it:=H.length) (r:=slX r) (lp:=.lst ((x::y::z::u::mo m)::es)) hmd slD hnd hm j 0 (K-j) (H++[tmK x y z u m]) (fun i _ h=>hsk i (by omega)) (by rw[XK])
  rw[Nat.sub_add_cancel (by omega),ZY]at j1
  have hs2:=(hs.app [tmK x y z u m]).app J
  have h10:(H++[tmK x y z u m]++J)[H.length]? =some (tmK x y z u m):=Xy (by rw[XK]) J
  obtain⟨T,H2,xs2,j2,j3,j4,j5,j6⟩:=dvd_hit (K:=K) (k:=K-j-1) (c0:=x::y::z::u::mo m) hmd slD hnd hxs hj hm h12 hd h10 hs2 (fun x hx=>hc _ (by rw[<-e1];exact ZM.2 ⟨x,hx,rfl⟩))
  rw[show K-j-1+1=K-j by omega,hxs]at j2
  rw[hxs]at j3
  have g1:=dvd_div (K:=K) (k:=k) hmd slD hm hs.z0 (j1.trans j2) j3
  obtain⟨T',H',r',xs',k1,k2⟩:=ih k (.lst outs) H2 r xs2 (by omega) .lst j4 (by rw[j6,hxs]) (by rw[j5,e1]) e2
  exact⟨T',H',r',xs',g1.trans k1,k2⟩
def plX:SlX->PL
 |none=>.nilS
 |some (_,_,es)=>.lst es
theorem plX_sl (x:SlX):Sl (plX x) (coX x):=by
 cases x with
 |none=>exact .nil
 |some q=>obtain⟨id,v,es⟩:=q;exact .lst
theorem frz_slX {H:List Blk}{x:SlX}(h:∀id v es,x=some (id,v,es)->H[id]? =some (trB v es))(n:Nat):Xn (n+1) (Xi H) (slX x)=some (plX x):=by
 cases x with
 |none=>rfl
 |some q=>
  obtain⟨id,v,es⟩:=q
  have h1:=h id v es rfl
  have ht:=V5 es (Zg _)
  have hf:=Uv n (Xi H) es
  have e:Xi H id=some (trB v es):=h1
  have hb:(Nat.beq v v&& !false&&Nat.ble (0+es.length) (pc es).length)=true:=by simp[XR]
  simp only[slX,Xn,e,hb,cond_true,Yh,ht,hf,plX]
theorem frz_cells {h:HF}{n:Nat}:∀{xs:List SlX},(∀x∈xs,Xn n h (slX x)=some (plX x))->Xl (Xl (Xn n h)) (Ve xs)=some (XD (xs.map plX))
 |[],_=>rfl
 |x::xs,hx=>by
  have ih:=frz_cells (xs:=xs) fun y hy=>hx y (Zc _ hy)
  have h1:=hx x (Zh ..)
  simp only[Ve]at ih
  simp only[Ve,Zx,Xl,h1,ih,XD]
theorem DSt.frz {lo by_:PL}{l:Nat}{fst:Bool}{H:List Blk}{r:SlX}{xs:List SlX}(h:DSt lo by_ l fst H r xs):Xw (Xi H) (.one (.own 1 0 0 xs.length))=some (.one (.lst (XD (xs.map plX))))/\Xw (Xi H) (.one (slX r))=some (.one (plX r)):=by
 have hx:∀(n i:Nat) (x:SlX),(r::xs)[i]? =some x->Xn (n+1) (Xi H) (slX x)=some (plX x):=fun n i x hi=>frz_slX (fun id v es e=>(h.own i id v es (by rw[hi,e])).1) n
 constructor
 ·have h1:=frz_cells (h:=Xi H) (n:=5) (xs:=xs) fun x hm=>by
   obtain⟨i,hi⟩:=Z2.1 hm
   exact hx 4 (i+1) x (by rw[Yy];exact hi)
  have e:Xi H 1=some (quB (Ve xs)):=h.z1
  have hb:(Nat.beq 0 0&& !false&&Nat.ble (0+xs.length) (Ve xs).length)=true:=by simp[Ve]
  have ht:(Ve xs).take xs.length=Ve xs:=Ze (by simp[Ve])
  simp only[Xw,XM,Xn,e,hb,cond_true,Yh,ht,h1]
 ·have h2:=hx 5 0 r rfl
  simp only[Xw,XM,h2]
theorem DSt.start {lo by_:PL}{l:Nat}{fst:Bool}(n:Nat):DSt lo by_ l fst [dnB lo by_ l (.bool fst),quB (List.replicate n [.p .nilS])] none (List.replicate n none):=by
 have hn:∀(i:Nat) (y:Nat×Nat×List (List PL)),((none:SlX)::List.replicate n none)[i]? =some (some y)->False:=fun i y hi=>by
  have:=Zu hi
  rcases Zk.1 this with h|h
  ·cases h
  ·have:=(List.mem_replicate.1 h).2;cases this
 refine⟨rfl,?_,fun i id v es hi=>(hn i _ hi).elim,fun i j id v es v' es' hi _=>(hn i _ hi).elim⟩
 show some _=_
 simp[Ve,slX]
theorem divide_cells {B:Base}(hB:Std B){lo by_ lp ll:PL}{l n:Nat}{fst:Bool}{ds left r':List (List PL)}{cs':List (List (List PL))}(slD:Sl by_ ds)(hnd:ds.length<1000000)(h1:Ret B 83 [.one lp,.one lo] (.one ll))(sl:Sl ll left)
  (hr:Evt B fun E _=>RunV E lo by_ l fst ds n left (List.replicate ds.length []) [] cs' r'):
  ∃ls rr,Ret B 67 [.agg [lo,by_,.int .i64 (.ofNat l),.bool fst],.one lp] (.tup [.one (.lst (XD ls)),.one rr,.one (.bool true)])/\All2 Sl ls cs'/\Sl rr r':=by
 obtain⟨r,h2,ls,rr,rfl,h3⟩:=Ret.ofEx (p:=fun r=>∃ls rr,r=.tup [.one (.lst (XD ls)),.one rr,.one (.bool true)]/\All2 Sl ls cs'/\Sl rr r') (hB.tab 67 _ rfl) (a:=[.agg [lo,by_,.int .i64 (.ofNat l),.bool fst],.one lp]) ((hr.and (h1.evt.and (hB.evt.and (Evt.ge (ds.length+n+2))))).mono fun E K ⟨e1,e2,hmd,hK⟩=>by
  obtain⟨T',H',r2,xs',g1,⟨g2,g3⟩,g4,g5,g6,g7⟩:=dvd_go (K:=K) hmd slD hnd (by omega) e1 K ll _ none (List.replicate ds.length none) (by omega) sl (DSt.start ds.length) (by simp) (by simp[coX]) rfl
  obtain⟨f1,f2⟩:=g4.frz
  rw[g5]at f1
  refine⟨_,?_,xs'.map plX,plX r2,rfl,?_,by rw[<-g7];exact plX_sl r2⟩
  ·have hlen:=slD.len
   have b1:24*ds.length<=lim:=by unfold lim;omega
   have b2:ds.length<=9223372036854775807:=by omega
   simp only[outS,dnB,quB,slX]at g1
   simp only[EVS,EVN,EVH,reduceIte,Nat.reduceEqDiff,Nat.reduceLeDiff,Nat.reduceAdd,Zg,x67,hmd,MDS,hlen,b1,b2,e2,g1,g2,g3,f1,f2]
  ·rw[<-g6]
   clear f1 g4 g5 g6 g1
   induction xs' with
   |nil=>exact .nil
   |cons x xs ih=>exact .cons (plX_sl x) ih)
 exact⟨ls,rr,h2,h3⟩
end Go.Proofs.YtefpgecinlekpaaGreat
namespace Go.Num
abbrev Dv:=Qm×List Qm×List Qm×Nat
def Rb (m:List Nat):List Dv->Nat->Option Nat
 |[],_=>none
 |d::ds,i=>if XU d.1.2 m=true then some i else Rb m ds (i+1)
theorem TY {m:List Nat}:∀{ds:List Dv} {i:Nat},Rb m ds i=none->∀d∈ds,XU d.1.2 m=false
 |[],_,_,d,hd=>by cases hd
 |e::ds,i,h,d,hd=>by
  unfold Rb at h
  split at h
  ·cases h
  ·rename_i h1
   rcases Zk.1 hd with rfl|hd
   ·simpa using h1
   ·exact TY h d hd
theorem firstD_some {m:List Nat}:∀{ds:List Dv} {i j:Nat},Rb m ds i=some j->∃d,i<=j/\ds[j-i]? =some d/\XU d.1.2 m=true/\∀k,k<j-i->∃e,ds[k]? =some e/\XU e.1.2 m=false
 |[],_,_,h=>by cases h
 |e::ds,i,j,h=>by
  unfold Rb at h
  split at h
  ·rename_i h1
   cases h
   exact⟨e,Zg _,by rw[YN];rfl,h1,fun k hk=>by omega⟩
  ·rename_i h1
   obtain⟨d,g1,g2,g3,g4⟩:=firstD_some h
   refine⟨d,by omega,?_,g3,fun k hk=> ?_⟩
   ·rw[show j-i=(j-(i+1))+1 by omega,Yy];exact g2
   ·cases k with
    |zero=>exact⟨e,rfl,by simpa using h1⟩
    |succ k=>
     obtain⟨d',k1,k2⟩:=g4 k (by omega)
     exact⟨d',by rw[Yy];exact k1,k2⟩
def nextQ (fst:Bool)(qs:List (List Qm))(j:Nat)(t:Qm):List (List Qm):=match fst with
 |true=>qs
 |false=>match qs[j]? with
  |some q=>qs.set j (q++[t])
  |none=>qs
inductive DivP (o:List (List Int))(sz1:Rat->Prop)(sz:List Qm->Prop)(ok:List Nat->Prop)(ds:List Dv)(fst:Bool):Nat->List Qm->List (List Qm)->List Qm->List (List Qm)->List Qm->Prop
 |done {qs:List (List Qm)} {r:List Qm}:DivP o sz1 sz ok ds fst 0 [] qs r qs r
 |rem0 {n:Nat} {t:Qm} {p:List Qm} {qs qs':List (List Qm)} {r r':List Qm} (hf:fst=false) (c2:sz r) (hn:Rb t.2 ds 0=none) (h:DivP o sz1 sz ok ds fst n p qs (r++[t]) qs' r'):DivP o sz1 sz ok ds fst (n+1) (t::p) qs r qs' r'
 |rem1 {t:Qm} {p:List Qm} {qs:List (List Qm)} {r:List Qm} (hf:fst=true) (c2:sz r) (hn:Rb t.2 ds 0=none):DivP o sz1 sz ok ds fst 1 (t::p) qs r qs (r++[t])
 |div {n j:Nat} {t:Qm} {d:Dv} {p:List Qm} {qs qs':List (List Qm)} {r r':List Qm} (c1:sz p) (c3:sz1 t.1) (c4:sz1 d.1.1) (c5:sz1 (XZ t d.1).1) (c6:sz d.2.2.1) (c7:∀u∈d.2.2.1,ok (Xh u.2 (XZ t d.1).2)/\u.1≠0/\sz1 (-(XZ t d.1).1*u.1)) (c8:d.1.1≠0) (c9:(XZ t d.1).1≠0) (c10:∀q∈qs,sz q)
   (hj:Rb t.2 ds 0=some j) (hd:ds[j]? =some d) (h:DivP o sz1 sz ok ds fst n (Uj o (-(XZ t d.1).1) (XZ t d.1).2 p d.2.2.1) (nextQ fst qs j (XZ t d.1)) r qs' r'):DivP o sz1 sz ok ds fst (n+1) (t::p) qs r qs' r'
end Go.Num
namespace Go.Proofs.YtefpgecinlekpaaGreat
open Go.Ev Go.Num
theorem skip_evt {B:Base}(hB:Std B){m:List Nat}(hm:XF m){dcs:List (List PL)}{ds:List Dv}(hds:IsDvs dcs ds)(n:Nat)(h:∀i,i<n->∃e,ds[i]? =some e/\XU e.1.2 m=false):Evt B fun E _=>∀i,i<n->∃d,dcs[i]? =some d/\SkipD E m d:=by
 refine Evt.all n fun i hi=> ?_
 obtain⟨e,h1,h2⟩:=h i hi
 obtain⟨d,h3,h4⟩:=hds.get i e h1
 obtain⟨a,b,c,f,p,r,rfl,q,hk,hp,hr⟩:=h4
 have hq:=pquo_ret0 hB hm hk h2
 exact hq.evt.mono fun E K e1=>⟨_,h3,_,_,_,_,_,_,_,_,rfl,hk.1,e1⟩
theorem next_map {fst:Bool}{cs:List (List (List PL))}{qs:List (List Qm)}(h:All2 XJ cs qs){c:List PL}{t:Qm}(hc:VT c t)(j:Nat):All2 XJ (nextX fst cs j c) (nextQ fst qs j t):=by
 cases fst with
 |true=>exact h
 |false=>
  unfold nextX nextQ
  cases hq:qs[j]? with
  |none=>
   have hl:=h.length
   have :cs[j]? =none:=Ys (by rw[hl];exact List.getElem?_eq_none_iff.1 hq)
   simp only[this]
   exact h
  |some q=>
   obtain⟨x,h1,h2⟩:=h.get j q hq
   simp only[h1]
   exact h.set j _ _ (h2.append (.cons hc .nil))
theorem runV_evt {B:Base}(hB:Std B){lo by_:PL}{l:Nat}(hlim:65535<=l){fst:Bool}{o:List (List Int)}(so:IsO lo o)(ho:Tj o)(hol:o.length<1000000){dcs:List (List PL)}{ds:List Dv}(hds:IsDvs dcs ds){n:Nat}{left:List Qm}{qs qs':List (List Qm)}{r r':List Qm}(h:DivP o Sq SzL XF ds fst n left qs r qs' r'):
  ∀(lc:List (List PL)) (cs:List (List (List PL))) (rc:List (List PL)),XJ lc left->All2 XJ cs qs->XJ rc r->∃cs' rc',(Evt B fun E _=>RunV E lo by_ l fst dcs n lc cs rc cs' rc')/\All2 XJ cs' qs'/\XJ rc' r':=by
 induction h with
 |done=>
  intro lc cs rc p1 p2 p3
  cases p1
  exact⟨cs,rc,Evt.of fun _ _=>.done,p2,p3⟩
 |@rem0 n t p qs qs' r r' hf c2 hn h ih=>
  intro lc cs rc p1 p2 p3
  cases p1 with
  |@cons c _ lc _ ht hp=>
   obtain⟨cs',rc',g1,g2,g3⟩:=ih lc cs (rc++[c]) hp p2 (p3.append (.cons ht .nil))
   have h12:∀d∈lc,d.length=12:=fun d hd=>Sa.len (XJ.forms hp d hd)
   have hl:=c2.2
   have hrl:=p3.length
   have hs:=skip_evt hB ht.mok8 hds dcs.length fun i hi=>by
    rw[hds.length]at hi
    exact⟨_,Zf hi,TY hn _ (YP hi)⟩
   have h8:=ht.mok8.1
   obtain⟨a,b,c',d',rfl,-,-⟩:=ht
   exact⟨cs',rc',(g1.and hs).mono fun E K ⟨e1,e2⟩=>.rem0 hf h8 h12 (by omega) e2 e1,g2,g3⟩
 |@rem1 t p qs r hf c2 hn=>
  intro lc cs rc p1 p2 p3
  cases p1 with
  |@cons c _ lc _ ht hp=>
   have h12:∀d∈lc,d.length=12:=fun d hd=>Sa.len (XJ.forms hp d hd)
   have hl:=c2.2
   have hrl:=p3.length
   have hs:=skip_evt hB ht.mok8 hds dcs.length fun i hi=>by
    rw[hds.length]at hi
    exact⟨_,Zf hi,TY hn _ (YP hi)⟩
   have h8:=ht.mok8.1
   have pa:=p3.append (.cons ht .nil)
   obtain⟨a,b,c',d',rfl,-,-⟩:=ht
   exact⟨cs,_,hs.mono fun E K e2=>.rem1 hf h8 h12 (by omega) e2,p2,pa⟩
 |@div n j t d p qs qs' r r' c1 c3 c4 c5 c6 c7 c8 c9 c10 hj hd h ih=>
  intro lc cs rc p1 p2 p3
  cases p1 with
  |@cons c _ lc _ ht hp=>
   have h12:∀d∈lc,d.length=12:=fun d hd=>Sa.len (XJ.forms hp d hd)
   obtain⟨d',f1,f2,f3,f4⟩:=firstD_some hj
   rw[Nat.sub_zero]at f2 f4
   rw[hd]at f2
   obtain rfl:=Option.some.inj f2
   have hs:=skip_evt hB ht.mok8 hds j f4
   obtain⟨dc,k1,k2⟩:=hds.get j d hd
   have hpl:=hp.length
   have l1:=c1.2
   have l6:=c6.2
   have hcl:∀c∈cs,c.length<1000000:=fun c hc=>by
    obtain⟨i,hi⟩:=Z2.1 hc
    have hl:=p2.length
    have hil:i<qs.length:=by rw[<-hl];exact(Zb.1 hi).1
    obtain⟨x,q1,q2⟩:=p2.get i _ (Zf hil)
    rw[hi]at q1
    obtain rfl:=Option.some.inj q1
    have:=(c10 _ (YP hil)).2
    have:=q2.length
    omega
   obtain⟨a1,a2,a3,a4,pp,rr,rfl,q,hk,hpp,hrr⟩:=k2
   have hm:=ht.mok8
   obtain⟨b1,b2,b3,b4,rfl,qt,-⟩:=ht
   obtain⟨e,v1,v2⟩:=ratDiv_q hB qt q c3 c4 c8
   have v3:=pquo_ret hB hm hk f3
   obtain⟨e1,e2,e3,e4,rfl⟩:=v2.len
   have hterm:VT (.bool e1::e2::.bool e3::e4::mo (Wv t.2 d.1.2)) (XZ t d.1):=VT.mk v2 (subM_mok hm hk)
   obtain⟨outs,v4,v5⟩:=subtract_ret hB (by_:=by_) (fst:=.bool fst) hlim so ho hol hterm c5 c9 (lp:=.lst lc) ⟨_,.lst,hp⟩ c1.1 hrr c6.1 c7 (by omega) (by omega)
   obtain⟨cs',rc',g1,g2,g3⟩:=ih outs (nextX fst cs j _) rc v5 (next_map p2 hterm j) p3
   exact⟨cs',rc',(g1.and (hs.and (v1.evt.and (v3.evt.and v4.evt)))).mono fun E K ⟨z0,z1,z2,z3,z4⟩=>.div hm.1 h12 k1 z1 (.mk hk.1 (subM_mok hm hk).1 z3 z2 z4) hcl z0,g2,g3⟩
theorem pdivide_ret {B:Base}(hB:StdO B){lo by_ lp:PL}{l:Nat}(hlim:65535<=l){fst:Bool}{o:List (List Int)}(so:IsO lo o)(ho:Tj o)(hol:o.length<1000000){dcs:List (List PL)}{ds:List Dv}(slD:Sl by_ dcs)(hds:IsDvs dcs ds)(hdl:ds.length<1000000){p:List Qm}(hp:PQ lp p)(hd:DistQ p)(hl:p.length<60000)
  {n:Nat} {qs':List (List Qm)} {r':List Qm} (h:DivP o Sq SzL XF ds fst n (U3 o p) (List.replicate ds.length []) [] qs' r'):
  ∃ls rr,Ret B 67 [.agg [lo,by_,.int .i64 (.ofNat l),.bool fst],.one lp] (.tup [.one (.lst (XD ls)),.one rr,.one (.bool true)])/\PQs ls qs'/\PQ rr r':=by
 obtain⟨ll,h1,es,sl,h2⟩:=decreasing_ret hB so ho hol hp hd hl
 have hlen:=hds.length
 have hrep:∀n,All2 XJ (List.replicate n []) (List.replicate n []):=fun n=>by
  induction n with
  |zero=>exact .nil
  |succ n ih=>exact .cons .nil ih
 obtain⟨cs',rc',g1,g2,g3⟩:=runV_evt hB.toStd (by_:=by_) hlim so ho hol hds h es (List.replicate ds.length []) [] h2 (hrep _) .nil
 rw[<-hlen]at g1
 obtain⟨ls,rr,k1,k2,k3⟩:=divide_cells hB.toStd slD (by omega) h1 sl g1
 refine⟨ls,rr,k1,?_,rc',k3,g3⟩
 clear k1 g1 h
 induction k2 generalizing qs' with
 |nil=>cases g2;exact .nil
 |cons hx _ ih=>cases g2 with |cons hy g2=>exact .cons ⟨_,hx,hy⟩ (ih g2)
end Go.Proofs.YtefpgecinlekpaaGreat
