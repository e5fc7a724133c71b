/- Division: divide, the loop. -/
import Derived.Test.YtidginchkjhobaaGreatQDvd
set_option maxHeartbeats 16000000
set_option maxRecDepth 100000
namespace Go.Ev
open Go.Proofs.YtidginchkjhobaaGreat
theorem HL {E}{K k n l}{e}(D:E.mode=md){I b}{q d}(j:Sl b q){m}(t:m.length=8){x y z u}{H o}{T}{r}{a}
  (B:H[0]? =some (RT I b l (.bool e))) (v:Xb E K 0 [2,7,8,9,10,32,33,34] x99_1 K ⟨Hp n r (.Xl ((x::y::z::u::mo m)::d)) b H.length q.length 0,H++[UO x y z u m]⟩=some (.exit 1,⟨T,o⟩)) (g:SY T n r (.p (.Xl a))):
  Xb E K 0 [2,7,8,9] x99_2 (k+1) ⟨[(2,.one (.ptr 0 0 0 0)),(7,.one (.own 1 0 0 n)),(8,.one r),(9,La4 (.Xl ((x::y::z::u::mo m)::d)))],H⟩=Xb E K 0 [2,7,8,9] x99_2 k ⟨[(2,.one (.ptr 0 0 0 0)),(7,.one (.own 1 0 0 n)),(8,.one r),(9,La4 (.Xl a))],o⟩:=by
 obtain⟨J,L,M,N⟩:=g;have A:Sl (.Xl ((x::y::z::u::mo m)::d)) _:=.Xl;have c:=A.len;have F:=fun(C:HF) (G:IntKind)=>A.idx (h:=C) (k:=G) (i:=0) (sz:=12) rfl (by simp[XI,t])
 have O:(Xu m).take 8=Xu m:=Ze (by rw[Xc];omega);have P:(Xu m).drop 8=[]:=Zo (by rw[Xc];omega);have w:=X0 m;have s:=WG B;have f:=j.len;simp only[UO]at v;simp only[RT]at s B;rw[Xb];simp+decide only[Xo,Xs,reduceIte,Nat.reduceAdd,x99_2,Wj,Xc,Wk,Wp,Zn,Zw,Yu,c,F,O,s,f,v,J,L,M,N,t,Nat.reduceBEq,BEq.rfl]
abbrev Ju (n:Nat)(r:DL)(lp:PL):List (Nat×DV):=[(2,.one (.ptr 0 0 0 0)),(7,.one (.own 1 0 0 n)),(8,.one r),(9,La4 lp)]
theorem Fk {E}{K k n}{r}{c}(d:Sl c [])(H):
  ∃b,Xb E K 0 [2,7,8,9] x99_2 (k+1) ⟨Ju n r c,H⟩=some (.exit 0,⟨b,H⟩)/\Xi b 7=some (.one (.own 1 0 0 n))/\Xi b 8=some (.one r):=by
 have a:=d.len;apply VW
 ·rw[Xb];simp only[Xo,Xs,reduceIte,Nat.reduceEqDiff,x99_2,a,Zx];rfl
 ·simp only[Xo,reduceIte,Nat.reduceEqDiff,and_self]
inductive re (E:Xa)(lo by_:PL)(l:Nat)(fst:Bool)(ds:Z'):Nat->Z'->List Z'->Z'->List Z'->Z'->Prop
 |done {cs:List Z'} {r:Z'}:re E lo by_ l fst ds 0 [] cs r cs r
 |Ds {n:Nat} {cs cs':List Z'} {r r' es:Z'} {x y z u:PL} {m:P'} (hf:fst=false) (hm:m.length=8) (h12:∀d∈es,d.length=12) (hr:r.length<1000000)
   (hs:∀j,j<ds.length->∃d,ds[j]? =some d/\vm E m d) (h:re E lo by_ l fst ds n es cs (r++[x::y::z::u::mo m]) cs' r'):re E lo by_ l fst ds (n+1) ((x::y::z::u::mo m)::es) cs r cs' r'
 |Dr {cs:List Z'} {r es:Z'} {x y z u:PL} {m:P'} (hf:fst=true) (hm:m.length=8) (h12:∀d∈es,d.length=12) (hr:r.length<1000000)
   (hs:∀j,j<ds.length->∃d,ds[j]? =some d/\vm E m d):re E lo by_ l fst ds 1 ((x::y::z::u::mo m)::es) cs r cs (r++[x::y::z::u::mo m])
 |div {n j:Nat} {cs cs':List Z'} {r r' es outs:Z'} {d t:N'} {x y z u:PL} {m:P'} (hm:m.length=8) (h12:∀d∈es,d.length=12) (hj:ds[j]? =some d)
   (hs:∀i,i<j->∃d,ds[i]? =some d/\vm E m d) (hd:Ks E lo by_ l fst x y z u m es d t outs) (hc:∀c∈cs,c.length<1000000) (h:re E lo by_ l fst ds n outs (jM fst cs j t) r cs' r'):re E lo by_ l fst ds (n+1) ((x::y::z::u::mo m)::es) cs r cs' r'
theorem J8 {E}{K l}{Y}(f:E.mode=md){lo by_}{b}(o:Sl by_ b)(s:b.length<1000000)(hK:b.length<K){n}{left}{cs R}{rc U}(h:re E lo by_ l Y b n left cs rc R U):
  ∀k lp H r w,n<k->Sl lp left->gA lo by_ l Y H r w->w.length=b.length->w.map Co=cs->Co r=rc->
   ∃D I G c,Xb E K 0 [2,7,8,9] x99_2 k ⟨Ju b.length (iV r) lp,H⟩=some (.exit 0,⟨D,I⟩)/\(Xi D 7=some (.one (.own 1 0 0 b.length))/\Xi D 8=some (.one (iV G)))/\gA lo by_ l Y I G c/\c.length=b.length/\c.map Co=R/\Co G=U:=by
 induction h with
 |done=>
  intro k lp H r w hk sl O e e1 e2;rcases k with _|k;omega;obtain⟨D,S,g2⟩:=Fk (E:=E) (K:=K) (k:=k) (n:=b.length) (r:=iV r) sl H
  grind
 |@Ds n cs R rc U M x y z u m hf N B hr P h ih=>
  intro k lp H r w hk sl O e e1 e2;rcases k with _|k;omega;obtain rfl:=Sl.VU sl;subst hf;obtain⟨J,V⟩:=df (K:=K) (n:=b.length) (it:=H.length) (r:=iV r) (lp:=.Xl ((x::y::z::u::mo m)::M)) f o s N b.length 0 (K-b.length) (H++[UO x y z u m]) (fun j _ h=>P j (by omega)) (by rw[Wk]);rw[Nat.sub_add_cancel (by omega),Yb]at V;obtain⟨T,W,X,Z⟩:=zA (E:=E) (K:=K) (k:=K-b.length-1) (n:=b.length) (it:=H.length) (r:=iV r) (lp:=.Xl ((x::y::z::u::mo m)::M)) (by_:=by_) (nd:=b.length) (H++[UO x y z u m]++J);rw[show K-b.length-1+1=K-b.length by omega]at W;have hx:=V.trans W;have a:=(O.app [UO x y z u m]).app J;have A:(H++[UO x y z u m]++J)[H.length]? =some (UO x y z u m):=WG (by rw[Wk]) J;have g:(r::w)[0]? =some r:=rfl;cases r with
  |none=>
   obtain⟨Q,S,g2⟩:=BX (K:=K) (k:=k) f o s N B O.z0 hx X Z A a.z0;have C:=a.new (p:=0) (id:=(H++[UO x y z u m]++J).length+1) (v:=0) (es:=[x::y::z::u::mo m]) g (r':=some (_,0,[_])) (xs':=w) rfl (H':=H++[UO x y z u m]++J++Q) (fun i _ hl=>Z9 hl) (WG a.z1 Q) (by omega) (by rw[VM];exact g2);obtain⟨D,I,G,c,k1,k2⟩:=ih k (.Xl M) _ _ w (by omega) .Xl C e e1 (by rw[<-e2];rfl);exact⟨D,I,G,c,S.trans k1,k2⟩
  |some q=>
   obtain⟨id,v,F⟩:=q;have L:F=rc:=e2;have ho:=a.own 0 id v F g;obtain⟨Q,S⟩:=BV (K:=K) (k:=k) f o s N B ho.1 (by rw[L];exact hr) O.z0 hx X Z A a.z0;have hl:=a.lt g;have C:=a.grow (p:=0) g (v+1) (F++[x::y::z::u::mo m]) (r':=some (id,v+1,F++[_])) (xs':=w) rfl (H':=(H++[UO x y z u m]++J).set id (Rp (v+1) (F++[x::y::z::u::mo m]))) (fun i _=>rfl) (by rw[ZY (by have:=ho.2;omega)];exact a.z1);obtain⟨D,I,G,c,k1,k2⟩:=ih k (.Xl M) _ _ w (by omega) .Xl (C.app Q) e e1 (by rw[<-L];rfl);exact⟨D,I,G,c,S.trans k1,k2⟩
 |@Dr cs rc M x y z u m hf N B hr P=>
  intro k lp H r w hk sl O e e1 e2;rcases k with _|k;omega;obtain rfl:=Sl.VU sl;subst hf;obtain⟨J,V⟩:=df (K:=K) (n:=b.length) (it:=H.length) (r:=iV r) (lp:=.Xl ((x::y::z::u::mo m)::M)) f o s N b.length 0 (K-b.length) (H++[UO x y z u m]) (fun j _ h=>P j (by omega)) (by rw[Wk]);rw[Nat.sub_add_cancel (by omega),Yb]at V;obtain⟨T,W,X,Z⟩:=zA (E:=E) (K:=K) (k:=K-b.length-1) (n:=b.length) (it:=H.length) (r:=iV r) (lp:=.Xl ((x::y::z::u::mo m)::M)) (by_:=by_) (nd:=b.length) (H++[UO x y z u m]++J);rw[show K-b.length-1+1=K-b.length by omega]at W;have hx:=V.trans W;have a:=(O.app [UO x y z u m]).app J;have A:(H++[UO x y z u m]++J)[H.length]? =some (UO x y z u m):=WG (by rw[Wk]) J;have g:(r::w)[0]? =some r:=rfl;cases r with
  |none=>
   obtain⟨D,Q,S,g2,g3⟩:=BW (K:=K) (k:=k) f o s N B O.z0 hx X Z A a.z0;have C:=a.new (p:=0) (id:=(H++[UO x y z u m]++J).length+1) (v:=0) (es:=[x::y::z::u::mo m]) g (r':=some (_,0,[_])) (xs':=w) rfl (H':=H++[UO x y z u m]++J++Q) (fun i _ hl=>Z9 hl) (WG a.z1 Q) (by omega) (by rw[VM];exact g3);exact⟨D,_,some ((H++[UO x y z u m]++J).length+1,0,[x::y::z::u::mo m]),w,S,g2,C,e,e1,by rw[<-e2];rfl⟩
  |some q=>
   obtain⟨id,v,F⟩:=q;have L:F=rc:=e2;have ho:=a.own 0 id v F g;obtain⟨D,Q,S,g2⟩:=BU (K:=K) (k:=k) f o s N B ho.1 (by rw[L];exact hr) O.z0 hx X Z A a.z0;have hl:=a.lt g;have C:=a.grow (p:=0) g (v+1) (F++[x::y::z::u::mo m]) (r':=some (id,v+1,F++[_])) (xs':=w) rfl (H':=(H++[UO x y z u m]++J).set id (Rp (v+1) (F++[x::y::z::u::mo m]))) (fun i _=>rfl) (by rw[ZY (by have:=ho.2;omega)];exact a.z1);exact⟨D,_,some (id,v+1,F++[x::y::z::u::mo m]),w,S,g2,C.app Q,e,e1,by rw[<-L];rfl⟩
 |@div n j cs R rc U M a0 d t x y z u m N B hj P hd hc h ih=>
  intro k lp H r w hk sl O e e1 e2;rcases k with _|k;omega;obtain rfl:=Sl.VU sl;have a2:j<b.length:=(Zg.1 hj).1;obtain⟨J,V⟩:=df (K:=K) (n:=b.length) (it:=H.length) (r:=iV r) (lp:=.Xl ((x::y::z::u::mo m)::M)) f o s N j 0 (K-j) (H++[UO x y z u m]) (fun i _ h=>P i (by omega)) (by rw[Wk]);rw[Nat.sub_add_cancel (by omega),Yb]at V;have a:=(O.app [UO x y z u m]).app J;have A:(H++[UO x y z u m]++J)[H.length]? =some (UO x y z u m):=WG (by rw[Wk]) J;obtain⟨T,H2,a1,W,X,Z,j5,j6⟩:=HK (K:=K) (k:=K-j-1) (c0:=x::y::z::u::mo m) f o s e hj N B hd A a (fun x hx=>hc _ (by grind));rw[show K-j-1+1=K-j by omega,e]at W;rw[e]at X;have S:=HL (K:=K) (k:=k) f o N O.z0 (V.trans W) X;obtain⟨D,I,G,c,k1,k2⟩:=ih k (.Xl a0) H2 r a1 (by omega) .Xl Z (by rw[j6,e]) (by rw[j5,e1]) e2
  grind
def Ck:dL->PL
 |none=>.Xp
 |some (_,_,es)=>.Xl es
theorem DS (x):Sl (Ck x) (Co x):=by
 cases x with
 |none=>exact .nil
 |some q=>obtain⟨id,v,a⟩:=q;exact .Xl
theorem Hx {H}{x}(h:∀id v a,x=some (id,v,a)->H[id]? =some (Rp v a))(n):XG (n+1) (Xj H) (iV x)=some (Ck x):=by
 cases x with
 |none=>rfl
 |some q=>
  obtain⟨id,v,a⟩:=q;have b:=h id v a rfl;have f:=WT a (Zf _);have d:=Vb n (Xj H) a;have e:Xj H id=some (Rp v a):=b;have c:(Nat.beq v v&& !false&&Nat.ble (0+a.length) (pc a).length)=true:=by simp[WB]
  simp only[iV,XG,e,c,cond_true,Z7,f,d,Ck]
theorem nZ {h}{n}:∀{xs},(∀x∈xs,XG n h (iV x)=some (Ck x))->Xw (Xw (XG n h)) (TM xs)=some (Xf (xs.map Ck))
 |[],_=>rfl
 |x::xs,hx=>by
  have b:=nZ (xs:=xs) fun y a=>hx y (Za _ a)
  simp_all [Xw,Xf]
theorem gA.Cl {m a}{l}{b}{H}{r}{xs}(h:gA m a l b H r xs):XX (Xj H) (.one (.own 1 0 0 xs.length))=some (.one (.Xl (Xf (xs.map Ck))))/\XX (Xj H) (.one (iV r))=some (.one (Ck r)):=by
 have k:∀(n i:Nat) (x:dL),(r::xs)[i]? =some x->XG (n+1) (Xj H) (iV x)=some (Ck x):=fun n i x g=>Hx (fun id v c e=>(h.own i id v c (by rw[g,e])).1) n
 constructor
 ·have d:=nZ (h:=Xj H) (n:=5) (xs:=xs) fun x p=>by
   grind [Zv]
  have e:Xj H 1=some (Jn (TM xs)):=h.z1;have f:(Nat.beq 0 0&& !false&&Nat.ble (0+xs.length) (TM xs).length)=true:=by simp[TM]
  have j:(TM xs).take xs.length=TM xs:=Ze (by simp[TM]);simp only[XX,WQ,XG,e,f,cond_true,Z7,j,d]
 ·have o:=k 5 0 r rfl
  grind [XX,WQ]
theorem gA.start {e a}{l}{b}(n):gA e a l b [RT e a l (.bool b),Jn (List.replicate n [.p .Xp])] none (List.replicate n none):=by
 have d:∀(i:Nat) (y:Nat×Nat×Z'),((none:dL)::List.replicate n none)[i]? =some (some y)->False:=fun i y c=>by
  grind
 refine⟨rfl,?_,fun i id v f c=>(d i _ c).elim,fun i j id v f h g c _=>(d i _ c).elim⟩
 simp_all [iV]
theorem qH {B}(A:Std B){m b u t}{l n}{e}{c left v}{d}(j:Sl b c)(s:c.length<1000000)(I:Xv B 140 [.one u,.one m] (.one t))(N:Sl t left)
  (J:XT B fun E _=>re E m b l e c n left (List.replicate c.length []) [] d v):
  ∃f g,Xv B 99 [.agg [m,b,La0 l,.bool e],.one u] (.Wd [.one (.Xl (Xf f)),.one g,.one (.bool true)])/\XE Sl f d/\Sl g v:=by
 obtain⟨r,R,f,g,rfl,S⟩:=Xv.eE (p:=fun r=>∃f g,r=.Wd [.one (.Xl (Xf f)),.one g,.one (.bool true)]/\XE Sl f d/\Sl g v) (A.Wa 99 _ rfl) (a:=[.agg [m,b,La0 l,.bool e],.one u]) ((J.and (I.Xk.and (A.Xk.and (XT.ge (c.length+n+2))))).mono fun E K ⟨e1,e2,i,T⟩=>by
  obtain⟨P,O,M,k,q,⟨G,H⟩,w,y,z,Q⟩:=J8 (K:=K) i j s (by omega) e1 K t _ none (List.replicate c.length none) (by omega) N (gA.start c.length) (by simp) (by simp[Co]) rfl;obtain⟨o,F⟩:=w.Cl;rw[y]at o;refine⟨_,?_,k.map Ck,Ck M,rfl,?_,by grind [DS]⟩
  ·have h:=j.len;have C:24*c.length<=lim:=by unfold lim;omega
   have D:c.length<=9223372036854775807:=by omega
   simp only[Ju,RT,Jn,iV]at q;simp only[Xo,Xs,Vv,reduceIte,Nat.reduceEqDiff,Nat.reduceLeDiff,Nat.reduceAdd,Zf,x99,i,X3,h,C,D,e2,q,G,H,o,F]
  ·rw[<-z];clear o w y z q;induction k with
   |nil=>exact .nil
   |cons x U L=>exact .cons (DS x) L)
 grind
abbrev Dv:=Qm×I'×I'×Nat
def Sc (m:P'):List Dv->Nat->Option Nat
 |[],_=>none
 |d::ds,i=>if Ww d.1.2 m=true then some i else Sc m ds (i+1)
theorem Ss {m}:∀{a} {i},Sc m a i=none->∀d∈a,Ww d.1.2 m=false
 |[],_,_,d,hd=>by cases hd
 |e::a,i,h,d,hd=>by
  unfold Sc at h;split at h
  ·cases h
  ·rename_i b;rcases Zk.1 hd with rfl|hd
   ·simpa using b
   ·exact Ss h d hd
theorem RN {m}:∀{a} {i j},Sc m a i=some j->∃d,i<=j/\a[j-i]? =some d/\Ww d.1.2 m=true/\∀k,k<j-i->∃e,a[k]? =some e/\Ww e.1.2 m=false
 |[],_,_,h=>by cases h
 |e::a,i,j,h=>by
  unfold Sc at h;split at h
  ·grind
  ·rename_i n;obtain⟨d,g,l,b,c⟩:=RN h;refine⟨d,by omega,?_,b,fun k o=> ?_⟩
   ·grind
   ·cases k with
    |zero=>grind
    |succ k=>
     obtain⟨f,p,q⟩:=c k (by omega)
     grind
def jN (fst:Bool)(qs:S')(j:Nat)(t:Qm):S':=match fst with
 |true=>qs
 |false=>match qs[j]? with
  |some q=>qs.set j (q++[t])
  |none=>qs
inductive dI (o:M')(sz1:Rat->Prop)(sz:I'->Prop)(ok:P'->Prop)(ds:List Dv)(fst:Bool):Nat->I'->S'->I'->S'->I'->Prop
 |done {qs:S'} {r:I'}:dI o sz1 sz ok ds fst 0 [] qs r qs r
 |Ds {n:Nat} {t:Qm} {p:I'} {qs qs':S'} {r r':I'} (hf:fst=false) (c2:sz r) (hn:Sc t.2 ds 0=none) (h:dI o sz1 sz ok ds fst n p qs (r++[t]) qs' r'):dI o sz1 sz ok ds fst (n+1) (t::p) qs r qs' r'
 |Dr {t:Qm} {p:I'} {qs:S'} {r:I'} (hf:fst=true) (c2:sz r) (hn:Sc t.2 ds 0=none):dI o sz1 sz ok ds fst 1 (t::p) qs r qs (r++[t])
 |div {n j:Nat} {t:Qm} {d:Dv} {p:I'} {qs qs':S'} {r r':I'} (c1:sz p) (c3:sz1 t.1) (c4:sz1 d.1.1) (c5:sz1 (We t d.1).1) (c6:sz d.2.2.1) (c7:∀u∈d.2.2.1,ok (Xg u.2 (We t d.1).2)/\u.1≠0/\sz1 (-(We t d.1).1*u.1)) (c8:d.1.1≠0) (c9:(We t d.1).1≠0) (c10:∀q∈qs,sz q)
   (hj:Sc t.2 ds 0=some j) (hd:ds[j]? =some d) (h:dI o sz1 sz ok ds fst n (T7 o (-(We t d.1).1) (We t d.1).2 p d.2.2.1) (jN fst qs j (We t d.1)) r qs' r'):dI o sz1 sz ok ds fst (n+1) (t::p) qs r qs' r'
theorem iW {B:Xq}(v:Std B){m:P'}(x:XA m){g:Z'}{k:List Dv}(j:lT g k)(n:Nat)(h:∀i,i<n->∃e,k[i]? =some e/\Ww e.1.2 m=false):XT B fun E _=>∀i,i<n->∃d,g[i]? =some d/\vm E m d:=by
 refine XT.all n fun i w=> ?_
 obtain⟨e,o,s⟩:=h i w;obtain⟨d,t,u⟩:=j.get i e o;obtain⟨a,b,c,f,p,r,rfl,q,l,z,A⟩:=u;have y:=AR v x l s;exact y.Xk.mono fun E K e1=>⟨_,t,_,_,_,_,_,_,_,_,rfl,l.1,e1⟩
theorem D9 {a}{d}{b}(h:XE X6 d b){c}{t}(g:Vn c t)(j):XE X6 (jM a d j c) (jN a b j t):=by
 cases a with
 |true=>exact h
 |false=>
  unfold jM jN;cases i:b[j]? with
  |none=>
   have k:=h.length
   grind
  |some q=>
   obtain⟨x,e,f⟩:=h.get j q i;simp only[e];exact h.set j _ _ (f.append (.cons g .nil))
theorem Dd {B:Xq}(J:Std B){lo by_:PL}{l:Nat}(N:65535<=l){fst:Bool}{o:M'}(so:SA lo o)(ho:Vq o)(a0:o.length<1000000){y:Z'}{ds:List Dv}(k:lT y ds){n:Nat}{left:I'}{L D:S'}{r S:I'}(h:dI o Sq Q4 XA ds fst n left L r D S):
  ∀(f:Z') (u:List Z') (F:Z'),X6 f left->XE X6 u L->X6 F r->∃g s,(XT B fun E _=>re E lo by_ l fst y n f u F g s)/\XE X6 g D/\X6 s S:=by
 induction h with
 |done=>
  intro f u F I A C;cases I;exact⟨u,F,XT.of fun _ _=>.done,A,C⟩
 |@Ds n t p L D r S hf T hn h ih=>
  intro f u F I A C;cases I with
  |@cons c _ f _ m H=>
   obtain⟨g,s,V,W,X⟩:=ih f u (F++[c]) H A (C.append (.cons m .nil));have v:∀d∈f,d.length=12:=fun d G=>Q3.len (X6.cU H d G)
   have hl:=T.2;have a5:=C.length;have O:=iW J m.jP k y.length fun i z=>by
    rw[k.length]at z;exact⟨_,Zd z,Ss hn _ (Ya z)⟩
   have Y:=m.jP.1;obtain⟨a,b,c',d',rfl,-,-⟩:=m;exact⟨g,s,(V.and O).mono fun E K ⟨e1,e2⟩=>.Ds hf Y v (by omega) e2 e1,W,X⟩
 |@Dr t p L r hf T hn=>
  intro f u F I A C;cases I with
  |@cons c _ f _ m H=>
   have v:∀d∈f,d.length=12:=fun d G=>Q3.len (X6.cU H d G)
   have hl:=T.2;have a5:=C.length;have O:=iW J m.jP k y.length fun i z=>by
    rw[k.length]at z;exact⟨_,Zd z,Ss hn _ (Ya z)⟩
   have Y:=m.jP.1;have pa:=C.append (.cons m .nil);obtain⟨a,b,c',d',rfl,-,-⟩:=m;exact⟨u,_,O.mono fun E K e2=>.Dr hf Y v (by omega) e2,A,pa⟩
 |@div n j t d p L D r S c1 c3 c4 c5 c6 c7 c8 c9 c10 hj G h ih=>
  intro f u F I A C;cases I with
  |@cons c _ f _ m H=>
   have v:∀d∈f,d.length=12:=fun d G=>Q3.len (X6.cU H d G)
   obtain⟨d',f1,U,f3,f4⟩:=RN hj;rw[Nat.sub_zero]at U f4;rw[G]at U;obtain rfl:=Option.some.inj U;have O:=iW J m.jP k j f4;obtain⟨dc,k1,k2⟩:=k.get j d G;have a7:=H.length;have l1:=c1.2;have l6:=c6.2;have Z:∀c∈u,c.length<1000000:=fun c hc=>by
    obtain⟨i,z⟩:=Zv.1 hc;have hl:=A.length;have M:i<L.length:=by grind
    obtain⟨x,q1,q2⟩:=A.get i _ (Zd M);rw[z]at q1;obtain rfl:=Option.some.inj q1;have:=(c10 _ (Ya M)).2;have:=q2.length;omega
   obtain⟨a1,a2,a3,a4,pp,rr,rfl,q,Q,a8,a6⟩:=k2;have R:=m.jP;obtain⟨b1,b2,b3,b4,rfl,qt,-⟩:=m;obtain⟨e,v1,v2⟩:=Dx J qt q c3 c4 c8;have v3:=O5 J R Q f3;obtain⟨e1,e2,e3,e4,rfl⟩:=v2.len;have w:Vn (.bool e1::e2::.bool e3::e4::mo (XO t.2 d.1.2)) (We t d.1):=Vn.mk v2 (Tf R Q);obtain⟨P,v4,v5⟩:=pb J (by_:=by_) (fst:=.bool fst) N so ho a0 w c5 c9 (lp:=.Xl f) ⟨_,.Xl,H⟩ c1.1 a6 c6.1 c7 (by omega) (by omega);obtain⟨g,s,V,W,X⟩:=ih P (jM fst u j _) F v5 (D9 A w j) C;exact⟨g,s,(V.and (O.and (v1.Xk.and (v3.Xk.and v4.Xk)))).mono fun E K ⟨z0,z1,z2,z3,z4⟩=>.div R.1 v k1 z1 (.mk Q.1 (Tf R Q).1 z3 z2 z4) Z z0,W,X⟩
theorem O8 {B}(s:fG B){y by_ lp}{l}(g:65535<=l){d}{o}(A:SA y o)(w:Vq o)(i:o.length<1000000){b}{c}(v:Sl by_ b)(e:lT b c)(I:c.length<1000000){p}(K:PQ lp p)(H:S3 p)(J:p.length<60000)
  {n} {a} {z} (h:dI o Sq Q4 XA c d n (VI o p) (List.replicate c.length []) [] a z):
  ∃m q,Xv B 99 [.agg [y,by_,La0 l,.bool d],.one lp] (.Wd [.one (.Xl (Xf m)),.one q,.one (.bool true)])/\VV m a/\PQ q z:=by
 obtain⟨Q,F,D,P,G⟩:=SR s A w i K H J;have f:=e.length;have j:∀n,XE X6 (List.replicate n []) (List.replicate n []):=fun n=>by
  induction n with
  |zero=>exact .nil
  |succ n t=>exact .cons .nil t
 obtain⟨C,u,r,k,E⟩:=Dd s.toStd (by_:=by_) g A w i e h D (List.replicate c.length []) [] G (j _) .nil;rw[<-f]at r;obtain⟨m,q,x,N,O⟩:=qH s.toStd v (by omega) F P r;refine⟨m,q,x,?_,u,O,E⟩;clear x r h;induction N generalizing a with
 |nil=>cases k;exact .nil
 |cons L _ t=>cases k with |cons M k=>exact .cons ⟨_,L,M⟩ (t k)
def O3:List Dv->S'->S'->S'
 |d::ds,q::qs,acc=>O3 ds qs (acc.set d.2.2.2 (VI [] q))
 |_,_,acc=>acc
theorem nC:∀b c a,(O3 b c a).length=a.length
 |[],_,_=>rfl
 |_::_,[],_=>rfl
 |d::b,q::c,a=>by rw[O3,nC];simp
theorem DR {B}(a:Std B):Xv B 145 [] (.one (.Xl [])):=by
 refine Xv.of (a.Wa _ _ rfl) (a.Xk.mono fun E K b=> ?_);simp+decide only[Xo,Xs,reduceIte,x145]
theorem zc:SA (.Xl []) []:=.Xl
theorem Fl {E}{K k i n g}(w:E.mode=md){j rr O P}{d}(y:Sl j d)(X:d.length<1000000){s f}{a b c e p q}{m}(A:d[i]? =some (S4 a b c e m p q g))(B:m.length=8)(V:s[i]? =some O)(l:g<f.length)(W:f.length=n)
  (T:E.pure 145 []=some (.one (.Xl []))) (U:E.pure 140 [.one O,.one (.Xl [])]=some (.one P)) (z) (G):
  ∃Q,Xb E K 0 [10,11,13,37,38,39] x101_1 (k+1) ⟨[(10,La4 (.Xl (Xf s))),(11,La4 rr),(13,.one (.own 1 0 0 n)),(37,La4 j),(38,La1 d.length),(39,La1 i)],z::qB f::G⟩=
   Xb E K 0 [10,11,13,37,38,39] x101_1 k ⟨[(10,La4 (.Xl (Xf s))),(11,La4 rr),(13,.one (.own 1 0 0 n)),(37,La4 j),(38,La1 d.length),(39,La1 (i+1))],z::qB (f.set g P)::Q⟩:=by
 subst W;have v:i<d.length:=(Zg.mp A).1;have C:=fun(u:HF) (x:IntKind)=>y.idx (h:=u) (k:=x) (sz:=15) A (by simp[S4,XI,B])
 have sl:Sl (.Xl (Xf s)) (Xf s):=.Xl;have Y:=fun(u:HF) (x:IntKind)=>sl.idx (h:=u) (k:=x) (sz:=1) (XK V) rfl
 have S:Xd .i64 (.ofNat (i+1))=.ofNat (i+1):=wrap_i64 (by omega);obtain⟨D,F,H,I,J,L,M,N,rfl⟩:=eight B;have R:mo [D,F,H,I,J,L,M,N]=[La0 D,La0 F,La0 H,La0 I,La0 J,La0 L,La0 M,La0 N]:=rfl;simp only[S4,R,ZD,ZB]at C;obtain⟨Z,r⟩:∃o,f[g]? =some o:=⟨_,Zd l⟩;have t:=yI r;apply Exists.intro;rw[Xb];simp+decide only[Xo,Xs,VD,Vv,reduceIte,Nat.reduceEqDiff,Nat.reduceLeDiff,Nat.reduceAdd,x101_1,w,X3,v,C,Y,S,T,U,l,t,yH,Wk,Wp,Zn,Zw];rfl
inductive FT (E:Xa):Z'->N'->N'->N'->Prop
 |done {lqs:N'}:FT E [] [] lqs lqs
 |next {a b c e p q li nq:PL} {m:P'} {at_:Nat} {dcs:Z'} {ls lqs lqs':N'} (hm:m.length=8) (hat:at_<lqs.length) (h2:E.pure 140 [.one li,.one (.Xl [])]=some (.one nq)) (h:FT E dcs ls (lqs.set at_ nq) lqs'):FT E (S4 a b c e m p q at_::dcs) (li::ls) lqs lqs'
theorem yz {B}(t:fG B):∀{k} {s},lT k s->∀{m} {n},VV m n->m.length=k.length->(∀q∈n,S3 q/\q.length<60000)->∀{j} {i},VV j i->(∀d∈s,d.2.2.2<i.length)->
  ∃g,(XT B fun E _=>FT E k m j g)/\VV g (O3 s n i)
 |_,_,.nil,m,n,l,hl,_,j,i,ha,_=>by
  cases l with
  |nil=>exact⟨j,XT.of fun _ _=>.done,ha⟩
  |cons _ _=>simp at hl
 |_,_,.cons (x:=dc) (y:=d) hd h,m,n,l,hl,hs,j,i,ha,hat=>by
  cases l with
  |nil=>simp at hl
  |@cons M q m n D l=>
   obtain⟨G,H⟩:=hs q (Zc ..);obtain⟨N,w,z⟩:=SR t zc (o:=[]) (fun _ h=>by cases h) (by simp) D G H;obtain⟨g,A,C⟩:=yz t h l (by simpa using hl) (fun q l=>hs q (Za _ l)) (ha.set z d.2.2.2) (fun e I=>by grind);have v:=ha.length;have u:=hat d (Zc ..);obtain⟨a,b,c,f,p,r,rfl,O,F,J,L⟩:=hd;exact⟨g,(w.Xk.and A).mono fun E K ⟨e1,e2⟩=>.next F.1 (by omega) e1 e2,C⟩
theorem Jo {E}{K n}(v:E.mode=md){o rr}{d}(z:Sl o d)(w:d.length<1000000){lsa}(O:E.pure 145 []=some (.one (.Xl [])))(r){j}{y f g}(h:FT E j y f g):∀i k G,d.drop i=j->lsa.drop i=y->i+j.length=d.length->f.length=n->j.length<k->
  ∃l A,Xb E K 0 [10,11,13,37,38,39] x101_1 k ⟨[(10,La4 (.Xl (Xf lsa))),(11,La4 rr),(13,.one (.own 1 0 0 n)),(37,La4 o),(38,La1 d.length),(39,La1 i)],r::qB f::G⟩=some (.exit 0,⟨l,r::qB g::A⟩)/\(Xi l 11=some (La4 rr)/\Xi l 13=some (.one (.own 1 0 0 n)))/\g.length=n:=by
 induction h with
 |@done f=>
  intro i k G B D t F C;rcases k with _|k;omega;have u:¬i<d.length:=by simp at t;omega
  have :∃l,Xb E K 0 [10,11,13,37,38,39] x101_1 (k+1) ⟨[(10,La4 (.Xl (Xf lsa))),(11,La4 rr),(13,.one (.own 1 0 0 n)),(37,La4 o),(38,La1 d.length),(39,La1 i)],r::qB f::G⟩=some (.exit 0,⟨l,r::qB f::G⟩)/\(Xi l 11=some (La4 rr)/\Xi l 13=some (.one (.own 1 0 0 n))):=by
   apply VW
   ·rw[Xb];simp only[Xo,Xs,reduceIte,Nat.reduceEqDiff,x101_1,u];rfl
   ·simp only[Xo,reduceIte,Nat.reduceEqDiff,and_self]
  grind
 |@next a b c e p q W X m I j y f g Q s P h R=>
  intro i k G B D t F C;rcases k with _|k;omega;simp only[Zj]at t C;obtain⟨N,L⟩:=Xh B;obtain⟨M,J⟩:=Xh D;obtain⟨H,S⟩:=Fl (K:=K) (k:=k) (n:=n) (rr:=rr) v z w N Q M s F O P r G;obtain⟨l,A,T,U,V⟩:=R (i+1) k H L J (by omega) (by grind) (by omega)
  grind
theorem tC {B}(j:fG B){y L lp}{o}(W:SA y o)(R:Vq o)(u:o.length<1000000)(hv:Xv B 50 [.one y] (.one (.bool true))){a}{c}(V:Sl L (Xf a))(s:VV a c)(Q:∀f∈c,S3 f/\f.length<60000)(hl:c.length<400000)
  {p} (hp:PQ lp p) (G:S3 p) (m:p.length<60000) (F:(Vl o c 0).length<1000000) (a0:∀d∈Vl o c 0,d.2.2.2<c.length)
  {n} {e} {z} (h:dI o Sq Q4 XA (Vl o c 0) false n (VI o p) (List.replicate (Vl o c 0).length []) [] e z) (hq:∀q∈e,S3 q/\q.length<60000) (J:e.length=(Vl o c 0).length) (hr:S3 z) (M:z.length<60000):
  ∃w x,Xv B 101 [.one lp,.one L,.one y] (.Wd [.one (.Xl (Xf w)),.one x,.one (La0 0)])/\VV w (O3 (Vl o c 0) e (List.replicate c.length []))/\PQ x (VI [] z):=by
 obtain⟨i,A,h1,r,C⟩:=Oy j W R u V s Q hl;obtain⟨ls,x,h3,P,h5⟩:=O8 j (by_:=i) (l:=65535) (by omega) W R u r C F hp G m h;obtain⟨N,h6,h7⟩:=SR j zc (o:=[]) (fun _ h=>by cases h) (by simp) h5 hr M;have hx:=DR j.toStd;have v:∀n,VV (List.replicate n .Xp) (List.replicate n []):=fun n=>by
  induction n with
  |zero=>exact .nil
  |succ n ih=>exact .cons ⟨[],.nil,.nil⟩ ih
 have H:=s.length;have D:=C.length;obtain⟨b,g1,g2⟩:=yz j C P (by rw[P.length,J,D]) hq (v c.length) (fun d Q=>by grind);refine⟨b,N,Xv.of (j.Wa _ _ rfl) ((g1.and (h1.Xk.and (h3.Xk.and (h6.Xk.and (hx.Xk.and (hv.Xk.and (j.toStd.Xk.and (XT.ge (A.length+1))))))))).mono fun E K ⟨Z,e1,e3,e6,O,ev,t,hK⟩=> ?_),g2,h7⟩;obtain⟨T',G',T,⟨k2,k3⟩,U⟩:=Jo (K:=K) (n:=a.length) (rr:=x) t r (by omega) (lsa:=ls) O ⟨false,0,4,[[.p y,.p i,.p (La0 65535),.p (.bool false)]],false,135⟩ Z 0 K [] rfl rfl (by omega) (by grind) (by omega);have g:=V.len;rw[Xt]at g;have k:=r.len;have I:pc (Xf (List.replicate c.length .Xp))=List.replicate a.length [.p .Xp]:=by simp[pc,Xf,H]
 simp only[qB,I]at T;have X:24*a.length<=lim:=by unfold lim;omega
 have Y:a.length<=9223372036854775807:=by omega
 have S:=WT (Xf b) (Zf _);have hf:=fun h=>Vb 5 h (Xf b)
 rw[Xt,U]at S;have m:(pc (Xf b)).length=a.length:=by rw[qc,U]
 simp+decide only[Xo,Xs,Vv,reduceIte,Nat.reduceAdd,Zf,x101,t,X3,g,k,e1,e3,e6,O,ev,X,Y,T,k2,k3,S,hf,m]
