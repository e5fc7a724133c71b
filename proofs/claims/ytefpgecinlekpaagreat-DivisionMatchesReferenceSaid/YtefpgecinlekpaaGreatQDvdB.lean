/- Division: divide, the loop. -/
import Derived.Test.YtefpgecinlekpaaGreatQDvd
set_option maxHeartbeats 16000000
set_option maxRecDepth 100000
namespace Go.Proofs.YtefpgecinlekpaaGreat
open Go.Ev Go.Num
theorem Cg {E:Xb}{K k n l:Nat}{e:Bool}(D:E.mode=md){I b:PL}{q d:List (List PL)}(j:Sl b q){m:List Nat}(t:m.length=8){x y z u:PL}{H o:List Xz}{T:List (Nat×DV)}{r:DL}{a:List (List PL)}
  (B:H[0]? =some (S5 I b l (.bool e))) (v:Xc E K 0 [2,7,8,9,10,32,33,34] x67_1 K ⟨BZ n r (.Xv ((x::y::z::u::mo m)::d)) b H.length q.length 0,H++[Um x y z u m]⟩=some (.exit 1,⟨T,o⟩)) (g:T4 T n r (.p (.Xv a))):
  Xc E K 0 [2,7,8,9] x67_2 (k+1) ⟨[(2,.one (.ptr 0 0 0 0)),(7,.one (.own 1 0 0 n)),(8,.one r),(9,.one (.p (.Xv ((x::y::z::u::mo m)::d))))],H⟩=Xc E K 0 [2,7,8,9] x67_2 k ⟨[(2,.one (.ptr 0 0 0 0)),(7,.one (.own 1 0 0 n)),(8,.one r),(9,.one (.p (.Xv a)))],o⟩:=by
 obtain⟨J,L,M,N⟩:=g;have A:Sl (.Xv ((x::y::z::u::mo m)::d)) _:=.Xv;have c:=A.len;have F:=fun(C:HF) (G:IntKind)=>A.idx (h:=C) (k:=G) (i:=0) (sz:=12) rfl (by simp[Xy,t])
 have O:(Xm m).take 8=Xm m:=Zb (by rw[Xa];omega);have P:(Xm m).drop 8=[]:=Zj (by rw[Xa];omega);have w:=Xo m;have s:=X1 B;have f:=j.len;simp only[Um]at v;simp only[S5]at s B;rw[Xc];simp(decide:=true)only[Xp,Xq,reduceIte,Nat.reduceAdd,x67_2,XS,Xa,Wa,Wf,Zl,Zs,YF,c,F,O,s,f,v,J,L,M,N,t,Nat.reduceBEq,BEq.rfl]
abbrev Dz (n:Nat)(r:DL)(lp:PL):List (Nat×DV):=[(2,.one (.ptr 0 0 0 0)),(7,.one (.own 1 0 0 n)),(8,.one r),(9,.one (.p lp))]
theorem zX {E:Xb}{K k n:Nat}{r:DL}{c:PL}(d:Sl c [])(H:List Xz):
  ∃b,Xc E K 0 [2,7,8,9] x67_2 (k+1) ⟨Dz n r c,H⟩=some (.exit 0,⟨b,H⟩)/\Xh b 7=some (.one (.own 1 0 0 n))/\Xh b 8=some (.one r):=by
 have a:=d.len;apply VM
 ·rw[Xc];simp only[Xp,Xq,reduceIte,Nat.reduceEqDiff,x67_2,a,Zv];rfl
 ·simp only[Xp,reduceIte,Nat.reduceEqDiff,and_self]
inductive lW (E:Xb)(lo by_:PL)(l:Nat)(fst:Bool)(ds:List (List PL)):Nat->List (List PL)->List (List (List PL))->List (List PL)->List (List (List PL))->List (List PL)->Prop
 |done {cs:List (List (List PL))} {r:List (List PL)}:lW E lo by_ l fst ds 0 [] cs r cs r
 |xY {n:Nat} {cs cs':List (List (List PL))} {r r' es:List (List PL)} {x y z u:PL} {m:List Nat} (hf:fst=false) (hm:m.length=8) (h12:∀d∈es,d.length=12) (hr:r.length<1000000)
   (hs:∀j,j<ds.length->∃d,ds[j]? =some d/\pH E m d) (h:lW E lo by_ l fst ds n es cs (r++[x::y::z::u::mo m]) cs' r'):lW E lo by_ l fst ds (n+1) ((x::y::z::u::mo m)::es) cs r cs' r'
 |xX {cs:List (List (List PL))} {r es:List (List PL)} {x y z u:PL} {m:List Nat} (hf:fst=true) (hm:m.length=8) (h12:∀d∈es,d.length=12) (hr:r.length<1000000)
   (hs:∀j,j<ds.length->∃d,ds[j]? =some d/\pH E m d):lW E lo by_ l fst ds 1 ((x::y::z::u::mo m)::es) cs r cs (r++[x::y::z::u::mo m])
 |div {n j:Nat} {cs cs':List (List (List PL))} {r r' es outs:List (List PL)} {d t:List PL} {x y z u:PL} {m:List Nat} (hm:m.length=8) (h12:∀d∈es,d.length=12) (hj:ds[j]? =some d)
   (hs:∀i,i<j->∃d,ds[i]? =some d/\pH E m d) (hd:Eo E lo by_ l fst x y z u m es d t outs) (hc:∀c∈cs,c.length<1000000) (h:lW E lo by_ l fst ds n outs (fy fst cs j t) r cs' r'):lW E lo by_ l fst ds (n+1) ((x::y::z::u::mo m)::es) cs r cs' r'
theorem Ec {E:Xb}{K l:Nat}{Y:Bool}(f:E.mode=md){lo by_:PL}{b:List (List PL)}(o:Sl by_ b)(w:b.length<1000000)(hK:b.length<K){n:Nat}{left:List (List PL)}{cs S:List (List (List PL))}{rc U:List (List PL)}(h:lW E lo by_ l Y b n left cs rc S U):
  ∀(k:Nat) (lp:PL) (H:List Xz) (r:PK) (s:List PK),n<k->Sl lp left->dz lo by_ l Y H r s->s.length=b.length->s.map wR=cs->wR r=rc->
   ∃A G F c,Xc E K 0 [2,7,8,9] x67_2 k ⟨Dz b.length (Qk r) lp,H⟩=some (.exit 0,⟨A,G⟩)/\(Xh A 7=some (.one (.own 1 0 0 b.length))/\Xh A 8=some (.one (Qk F)))/\dz lo by_ l Y G F c/\c.length=b.length/\c.map wR=S/\wR F=U:=by
 induction h with
 |done=>
  intro k lp H r s hk sl I e e1 e2;obtain⟨k,rfl⟩:∃k',k=k'+1:=⟨k-1,by omega⟩;obtain⟨A,O,Z⟩:=zX (E:=E) (K:=K) (k:=k) (n:=b.length) (r:=Qk r) sl H;exact⟨A,H,r,s,O,Z,I,e,e1,e2⟩
 |@xY n cs S rc U N x y z u m hf P C hr Q h ih=>
  intro k lp H r s hk sl I e e1 e2;obtain⟨k,rfl⟩:∃k',k=k'+1:=⟨k-1,by omega⟩;obtain rfl:=Sl.Vp sl;subst hf;obtain⟨J,V⟩:=aK (K:=K) (n:=b.length) (it:=H.length) (r:=Qk r) (lp:=.Xv ((x::y::z::u::mo m)::N)) f o w P b.length 0 (K-b.length) (H++[Um x y z u m]) (fun j _ h=>Q j (by omega)) (by rw[Wa]);rw[Nat.sub_add_cancel (by omega),Z4]at V;obtain⟨T,W,X,j4⟩:=tT (E:=E) (K:=K) (k:=K-b.length-1) (n:=b.length) (it:=H.length) (r:=Qk r) (lp:=.Xv ((x::y::z::u::mo m)::N)) (by_:=by_) (nd:=b.length) (H++[Um x y z u m]++J);rw[show K-b.length-1+1=K-b.length by omega]at W;have hx:=V.trans W;have a:=(I.app [Um x y z u m]).app J;have B:(H++[Um x y z u m]++J)[H.length]? =some (Um x y z u m):=X1 (by rw[Wa]) J;have g:(r::s)[0]? =some r:=rfl;cases r with
  |none=>
   obtain⟨R,O,Z⟩:=wu (K:=K) (k:=k) f o w P C I.z0 hx X j4 B a.z0;have D:=a.new (p:=0) (id:=(H++[Um x y z u m]++J).length+1) (v:=0) (es:=[x::y::z::u::mo m]) g (r':=some (_,0,[_])) (xs':=s) rfl (H':=H++[Um x y z u m]++J++R) (fun i _ hl=>ZC hl) (X1 a.z1 R) (by omega) (by rw[Vh];exact Z);obtain⟨A,G,F,c,k1,k2⟩:=ih k (.Xv N) _ _ s (by omega) .Xv D e e1 (by rw[<-e2];rfl);exact⟨A,G,F,c,O.trans k1,k2⟩
  |some q=>
   obtain⟨id,v,L⟩:=q;have M:L=rc:=e2;have ho:=a.own 0 id v L g;obtain⟨R,O⟩:=wo (K:=K) (k:=k) f o w P C ho.1 (by rw[M];exact hr) I.z0 hx X j4 B a.z0;have hl:=a.lt g;have D:=a.grow (p:=0) g (v+1) (L++[x::y::z::u::mo m]) (r':=some (id,v+1,L++[_])) (xs':=s) rfl (H':=(H++[Um x y z u m]++J).set id (T8 (v+1) (L++[x::y::z::u::mo m]))) (fun i _=>rfl) (by rw[ZB (by have:=ho.2;omega)];exact a.z1);obtain⟨A,G,F,c,k1,k2⟩:=ih k (.Xv N) _ _ s (by omega) .Xv (D.app R) e e1 (by rw[<-M];rfl);exact⟨A,G,F,c,O.trans k1,k2⟩
 |@xX cs rc N x y z u m hf P C hr Q=>
  intro k lp H r s hk sl I e e1 e2;obtain⟨k,rfl⟩:∃k',k=k'+1:=⟨k-1,by omega⟩;obtain rfl:=Sl.Vp sl;subst hf;obtain⟨J,V⟩:=aK (K:=K) (n:=b.length) (it:=H.length) (r:=Qk r) (lp:=.Xv ((x::y::z::u::mo m)::N)) f o w P b.length 0 (K-b.length) (H++[Um x y z u m]) (fun j _ h=>Q j (by omega)) (by rw[Wa]);rw[Nat.sub_add_cancel (by omega),Z4]at V;obtain⟨T,W,X,j4⟩:=tT (E:=E) (K:=K) (k:=K-b.length-1) (n:=b.length) (it:=H.length) (r:=Qk r) (lp:=.Xv ((x::y::z::u::mo m)::N)) (by_:=by_) (nd:=b.length) (H++[Um x y z u m]++J);rw[show K-b.length-1+1=K-b.length by omega]at W;have hx:=V.trans W;have a:=(I.app [Um x y z u m]).app J;have B:(H++[Um x y z u m]++J)[H.length]? =some (Um x y z u m):=X1 (by rw[Wa]) J;have g:(r::s)[0]? =some r:=rfl;cases r with
  |none=>
   obtain⟨A,R,O,Z,g3⟩:=wq (K:=K) (k:=k) f o w P C I.z0 hx X j4 B a.z0;have D:=a.new (p:=0) (id:=(H++[Um x y z u m]++J).length+1) (v:=0) (es:=[x::y::z::u::mo m]) g (r':=some (_,0,[_])) (xs':=s) rfl (H':=H++[Um x y z u m]++J++R) (fun i _ hl=>ZC hl) (X1 a.z1 R) (by omega) (by rw[Vh];exact g3);exact⟨A,_,some ((H++[Um x y z u m]++J).length+1,0,[x::y::z::u::mo m]),s,O,Z,D,e,e1,by rw[<-e2];rfl⟩
  |some q=>
   obtain⟨id,v,L⟩:=q;have M:L=rc:=e2;have ho:=a.own 0 id v L g;obtain⟨A,R,O,Z⟩:=wm (K:=K) (k:=k) f o w P C ho.1 (by rw[M];exact hr) I.z0 hx X j4 B a.z0;have hl:=a.lt g;have D:=a.grow (p:=0) g (v+1) (L++[x::y::z::u::mo m]) (r':=some (id,v+1,L++[_])) (xs':=s) rfl (H':=(H++[Um x y z u m]++J).set id (T8 (v+1) (L++[x::y::z::u::mo m]))) (fun i _=>rfl) (by rw[ZB (by have:=ho.2;omega)];exact a.z1);exact⟨A,_,some (id,v+1,L++[x::y::z::u::mo m]),s,O,Z,D.app R,e,e1,by rw[<-M];rfl⟩
 |@div n j cs S rc U N a0 d t x y z u m P C hj Q hd hc h ih=>
  intro k lp H r s hk sl I e e1 e2;obtain⟨k,rfl⟩:∃k',k=k'+1:=⟨k-1,by omega⟩;obtain rfl:=Sl.Vp sl;have a2:j<b.length:=(Zd.1 hj).1;obtain⟨J,V⟩:=aK (K:=K) (n:=b.length) (it:=H.length) (r:=Qk r) (lp:=.Xv ((x::y::z::u::mo m)::N)) f o w P j 0 (K-j) (H++[Um x y z u m]) (fun i _ h=>Q i (by omega)) (by rw[Wa]);rw[Nat.sub_add_cancel (by omega),Z4]at V;have a:=(I.app [Um x y z u m]).app J;have B:(H++[Um x y z u m]++J)[H.length]? =some (Um x y z u m):=X1 (by rw[Wa]) J;obtain⟨T,H2,a1,W,X,j4,j5,j6⟩:=Ce (K:=K) (k:=K-j-1) (c0:=x::y::z::u::mo m) f o w e hj P C hd B a (fun x hx=>hc _ (by rw[<-e1];exact ZH.2 ⟨x,hx,rfl⟩));rw[show K-j-1+1=K-j by omega,e]at W;rw[e]at X;have O:=Cg (K:=K) (k:=k) f o P I.z0 (V.trans W) X;obtain⟨A,G,F,c,k1,k2⟩:=ih k (.Xv a0) H2 r a1 (by omega) .Xv j4 (by rw[j6,e]) (by rw[j5,e1]) e2;exact⟨A,G,F,c,O.trans k1,k2⟩
def ae:PK->PL
 |none=>.XJ
 |some (_,_,es)=>.Xv es
theorem yA (x:PK):Sl (ae x) (wR x):=by
 cases x with
 |none=>exact .nil
 |some q=>obtain⟨id,v,a⟩:=q;exact .Xv
theorem B6 {H:List Xz}{x:PK}(h:∀id v a,x=some (id,v,a)->H[id]? =some (T8 v a))(n:Nat):XB (n+1) (Xl H) (Qk x)=some (ae x):=by
 cases x with
 |none=>rfl
 |some q=>
  obtain⟨id,v,a⟩:=q;have b:=h id v a rfl;have f:=Ui a (Zh _);have d:=Ux n (Xl H) a;have e:Xl H id=some (T8 v a):=b;have c:(Nat.beq v v&& !false&&Nat.ble (0+a.length) (pc a).length)=true:=by simp[Wi]
  simp only[Qk,XB,e,c,cond_true,Ye,f,d,ae]
theorem jI {h:HF}{n:Nat}:∀{xs:List PK},(∀x∈xs,XB n h (Qk x)=some (ae x))->Xt (Xt (XB n h)) (V8 xs)=some (Xu (xs.map ae))
 |[],_=>rfl
 |x::xs,hx=>by
  have a:=jI (xs:=xs) fun y c=>hx y (Zc _ c)
  have b:=hx x (Ze ..);simp only[V8]at a;simp only[V8,Zw,Xt,b,a,Xu]
theorem dz.pT {p a:PL}{l:Nat}{b:Bool}{H:List Xz}{r:PK}{xs:List PK}(h:dz p a l b H r xs):XU (Xl H) (.one (.own 1 0 0 xs.length))=some (.one (.Xv (Xu (xs.map ae))))/\XU (Xl H) (.one (Qk r))=some (.one (ae r)):=by
 have d:∀(n i:Nat) (x:PK),(r::xs)[i]? =some x->XB (n+1) (Xl H) (Qk x)=some (ae x):=fun n i x c=>B6 (fun id v f e=>(h.own i id v f (by rw[c,e])).1) n
 constructor
 ·have g:=jI (h:=Xl H) (n:=5) (xs:=xs) fun x m=>by
   obtain⟨i,c⟩:=ZM.1 m;exact d 4 (i+1) x (by rw[Z9];exact c)
  have e:Xl H 1=some (Dt (V8 xs)):=h.z1;have k:(Nat.beq 0 0&& !false&&Nat.ble (0+xs.length) (V8 xs).length)=true:=by simp[V8]
  have o:(V8 xs).take xs.length=V8 xs:=Zb (by simp[V8]);simp only[XU,Wn,XB,e,k,cond_true,Ye,o,g]
 ·have j:=d 5 0 r rfl;simp only[XU,Wn,j]
theorem dz.start {e a:PL}{l:Nat}{b:Bool}(n:Nat):dz e a l b [S5 e a l (.bool b),Dt (List.replicate n [.p .XJ])] none (List.replicate n none):=by
 have d:∀(i:Nat) (y:Nat×Nat×List (List PL)),((none:PK)::List.replicate n none)[i]? =some (some y)->False:=fun i y c=>by
  have:=Zt c;rcases Zk.1 this with h|h
  ·cases h
  ·have:=(List.mem_replicate.1 h).2;cases this
 refine⟨rfl,?_,fun i id v f c=>(d i _ c).elim,fun i j id v f k g c _=>(d i _ c).elim⟩;show some _=_;simp[V8,Qk]
theorem lH {B:Xr}(A:Std B){m b u t:PL}{l n:Nat}{e:Bool}{c left v:List (List PL)}{d:List (List (List PL))}(j:Sl b c)(s:c.length<1000000)(L:Xs B 83 [.one u,.one m] (.one t))(Q:Sl t left)
  (O:X0 B fun E _=>lW E m b l e c n left (List.replicate c.length []) [] d v):
  ∃f g,Xs B 67 [.agg [m,b,.int .i64 (.ofNat l),.bool e],.one u] (.XY [.one (.Xv (Xu f)),.one g,.one (.bool true)])/\XF Sl f d/\Sl g v:=by
 obtain⟨r,M,f,g,rfl,N⟩:=Xs.Fa (p:=fun r=>∃f g,r=.XY [.one (.Xv (Xu f)),.one g,.one (.bool true)]/\XF Sl f d/\Sl g v) (A.X6 67 _ rfl) (a:=[.agg [m,b,.int .i64 (.ofNat l),.bool e],.one u]) ((O.and (L.Xi.and (A.Xi.and (X0.ge (c.length+n+2))))).mono fun E K ⟨e1,e2,i,T⟩=>by
  obtain⟨S,R,C,k,q,⟨H,I⟩,w,y,z,J⟩:=Ec (K:=K) i j s (by omega) e1 K t _ none (List.replicate c.length none) (by omega) Q (dz.start c.length) (by simp) (by simp[wR]) rfl;obtain⟨o,G⟩:=w.pT;rw[y]at o;refine⟨_,?_,k.map ae,ae C,rfl,?_,by rw[<-J];exact yA C⟩
  ·have h:=j.len;have D:24*c.length<=lim:=by unfold lim;omega
   have F:c.length<=9223372036854775807:=by omega
   simp only[Dz,S5,Dt,Qk]at q;simp only[Xp,Xq,WR,reduceIte,Nat.reduceEqDiff,Nat.reduceLeDiff,Nat.reduceAdd,Zh,x67,i,XW,h,D,F,e2,q,H,I,o,G]
  ·rw[<-z];clear o w y z q;induction k with
   |nil=>exact .nil
   |cons x U P=>exact .cons (yA x) P)
 exact⟨f,g,M,N⟩
end Go.Proofs.YtefpgecinlekpaaGreat
namespace Go.Num
abbrev Dv:=Qm×List Qm×List Qm×Nat
def Tt (m:List Nat):List Dv->Nat->Option Nat
 |[],_=>none
 |d::ds,i=>if X9 d.1.2 m=true then some i else Tt m ds (i+1)
theorem TD {m:List Nat}:∀{a:List Dv} {i:Nat},Tt m a i=none->∀d∈a,X9 d.1.2 m=false
 |[],_,_,d,hd=>by cases hd
 |e::a,i,h,d,hd=>by
  unfold Tt at h;split at h
  ·cases h
  ·rename_i b;rcases Zk.1 hd with rfl|hd
   ·simpa using b
   ·exact TD h d hd
theorem SX {m:List Nat}:∀{a:List Dv} {i j:Nat},Tt m a i=some j->∃d,i<=j/\a[j-i]? =some d/\X9 d.1.2 m=true/\∀k,k<j-i->∃e,a[k]? =some e/\X9 e.1.2 m=false
 |[],_,_,h=>by cases h
 |e::a,i,j,h=>by
  unfold Tt at h;split at h
  ·rename_i b;cases h;exact⟨e,Zh _,by rw[YM];rfl,b,fun k n=>by omega⟩
  ·rename_i b;obtain⟨d,q,f,g,l⟩:=SX h;refine⟨d,by omega,?_,g,fun k n=> ?_⟩
   ·rw[show j-i=(j-(i+1))+1 by omega,Z9];exact f
   ·cases k with
    |zero=>exact⟨e,rfl,by simpa using b⟩
    |succ k=>
     obtain⟨c,o,p⟩:=l k (by omega);exact⟨c,by rw[Z9];exact o,p⟩
def fB (fst:Bool)(qs:List (List Qm))(j:Nat)(t:Qm):List (List Qm):=match fst with
 |true=>qs
 |false=>match qs[j]? with
  |some q=>qs.set j (q++[t])
  |none=>qs
inductive aW (o:List (List Int))(sz1:Rat->Prop)(sz:List Qm->Prop)(ok:List Nat->Prop)(ds:List Dv)(fst:Bool):Nat->List Qm->List (List Qm)->List Qm->List (List Qm)->List Qm->Prop
 |done {qs:List (List Qm)} {r:List Qm}:aW o sz1 sz ok ds fst 0 [] qs r qs r
 |xY {n:Nat} {t:Qm} {p:List Qm} {qs qs':List (List Qm)} {r r':List Qm} (hf:fst=false) (c2:sz r) (hn:Tt t.2 ds 0=none) (h:aW o sz1 sz ok ds fst n p qs (r++[t]) qs' r'):aW o sz1 sz ok ds fst (n+1) (t::p) qs r qs' r'
 |xX {t:Qm} {p:List Qm} {qs:List (List Qm)} {r:List Qm} (hf:fst=true) (c2:sz r) (hn:Tt t.2 ds 0=none):aW o sz1 sz ok ds fst 1 (t::p) qs r qs (r++[t])
 |div {n j:Nat} {t:Qm} {d:Dv} {p:List Qm} {qs qs':List (List Qm)} {r r':List Qm} (c1:sz p) (c3:sz1 t.1) (c4:sz1 d.1.1) (c5:sz1 (XR t d.1).1) (c6:sz d.2.2.1) (c7:∀u∈d.2.2.1,ok (Xg u.2 (XR t d.1).2)/\u.1≠0/\sz1 (-(XR t d.1).1*u.1)) (c8:d.1.1≠0) (c9:(XR t d.1).1≠0) (c10:∀q∈qs,sz q)
   (hj:Tt t.2 ds 0=some j) (hd:ds[j]? =some d) (h:aW o sz1 sz ok ds fst n (Tp o (-(XR t d.1).1) (XR t d.1).2 p d.2.2.1) (fB fst qs j (XR t d.1)) r qs' r'):aW o sz1 sz ok ds fst (n+1) (t::p) qs r qs' r'
end Go.Num
namespace Go.Proofs.YtefpgecinlekpaaGreat
open Go.Ev Go.Num
theorem eL {B:Xr}(v:Std B){m:List Nat}(x:XL m){g:List (List PL)}{k:List Dv}(j:gZ g k)(n:Nat)(h:∀i,i<n->∃e,k[i]? =some e/\X9 e.1.2 m=false):X0 B fun E _=>∀i,i<n->∃d,g[i]? =some d/\pH E m d:=by
 refine X0.all n fun i w=> ?_
 obtain⟨e,o,s⟩:=h i w;obtain⟨d,t,u⟩:=j.get i e o;obtain⟨a,b,c,f,p,r,rfl,q,l,z,A⟩:=u;have y:=vg v x l s;exact y.Xi.mono fun E K e1=>⟨_,t,_,_,_,_,_,_,_,_,rfl,l.1,e1⟩
theorem yN {a:Bool}{b:List (List (List PL))}{d:List (List Qm)}(h:XF X2 b d){c:List PL}{t:Qm}(i:Vd c t)(j:Nat):XF X2 (fy a b j c) (fB a d j t):=by
 cases a with
 |true=>exact h
 |false=>
  unfold fy fB;cases e:d[j]? with
  |none=>
   have k:=h.length;have :b[j]? =none:=Yv (by rw[k];exact List.getElem?_eq_none_iff.1 e);simp only[this];exact h
  |some q=>
   obtain⟨x,f,g⟩:=h.get j q e;simp only[f];exact h.set j _ _ (g.append (.cons i .nil))
theorem xD {B:Xr}(J:Std B){lo by_:PL}{l:Nat}(N:65535<=l){fst:Bool}{o:List (List Int)}(so:S6 lo o)(ho:VE o)(a5:o.length<1000000){z:List (List PL)}{ds:List Dv}(k:gZ z ds){n:Nat}{left:List Qm}{L D:List (List Qm)}{r S:List Qm}(h:aW o Sq PR XL ds fst n left L r D S):
  ∀(f:List (List PL)) (u:List (List (List PL))) (F:List (List PL)),X2 f left->XF X2 u L->X2 F r->∃g s,(X0 B fun E _=>lW E lo by_ l fst z n f u F g s)/\XF X2 g D/\X2 s S:=by
 induction h with
 |done=>
  intro f u F I A C;cases I;exact⟨u,F,X0.of fun _ _=>.done,A,C⟩
 |@xY n t p L D r S hf U hn h ih=>
  intro f u F I A C;cases I with
  |@cons c _ f _ m H=>
   obtain⟨g,s,W,X,Y⟩:=ih f u (F++[c]) H A (C.append (.cons m .nil));have v:∀d∈f,d.length=12:=fun d G=>Qi.len (X2.aF H d G)
   have hl:=U.2;have a6:=C.length;have O:=eL J m.Pk k z.length fun i y=>by
    rw[k.length]at y;exact⟨_,Zg y,TD hn _ (YR y)⟩
   have Z:=m.Pk.1;obtain⟨a,b,c',d',rfl,-,-⟩:=m;exact⟨g,s,(W.and O).mono fun E K ⟨e1,e2⟩=>.xY hf Z v (by omega) e2 e1,X,Y⟩
 |@xX t p L r hf U hn=>
  intro f u F I A C;cases I with
  |@cons c _ f _ m H=>
   have v:∀d∈f,d.length=12:=fun d G=>Qi.len (X2.aF H d G)
   have hl:=U.2;have a6:=C.length;have O:=eL J m.Pk k z.length fun i y=>by
    rw[k.length]at y;exact⟨_,Zg y,TD hn _ (YR y)⟩
   have Z:=m.Pk.1;have pa:=C.append (.cons m .nil);obtain⟨a,b,c',d',rfl,-,-⟩:=m;exact⟨u,_,O.mono fun E K e2=>.xX hf Z v (by omega) e2,A,pa⟩
 |@div n j t d p L D r S c1 c3 c4 c5 c6 c7 c8 c9 T hj G h ih=>
  intro f u F I A C;cases I with
  |@cons c _ f _ m H=>
   have v:∀d∈f,d.length=12:=fun d G=>Qi.len (X2.aF H d G)
   obtain⟨d',f1,V,f3,f4⟩:=SX hj;rw[Nat.sub_zero]at V f4;rw[G]at V;obtain rfl:=Option.some.inj V;have O:=eL J m.Pk k j f4;obtain⟨dc,k1,k2⟩:=k.get j d G;have a8:=H.length;have l1:=c1.2;have l6:=c6.2;have a0:∀c∈u,c.length<1000000:=fun c hc=>by
    obtain⟨i,y⟩:=ZM.1 hc;have hl:=A.length;have M:i<L.length:=by rw[<-hl];exact(Zd.1 y).1
    obtain⟨x,q1,q2⟩:=A.get i _ (Zg M);rw[y]at q1;obtain rfl:=Option.some.inj q1;have:=(T _ (YR M)).2;have:=q2.length;omega
   obtain⟨a1,a2,a3,a4,pp,rr,rfl,q,Q,a9,a7⟩:=k2;have R:=m.Pk;obtain⟨b1,b2,b3,b4,rfl,qt,-⟩:=m;obtain⟨e,v1,v2⟩:=yg J qt q c3 c4 c8;have v3:=nG J R Q f3;obtain⟨e1,e2,e3,e4,rfl⟩:=v2.len;have w:Vd (.bool e1::e2::.bool e3::e4::mo (WW t.2 d.1.2)) (XR t d.1):=Vd.mk v2 (Qv R Q);obtain⟨P,v4,v5⟩:=kx J (by_:=by_) (fst:=.bool fst) N so ho a5 w c5 c9 (lp:=.Xv f) ⟨_,.Xv,H⟩ c1.1 a7 c6.1 c7 (by omega) (by omega);obtain⟨g,s,W,X,Y⟩:=ih P (fy fst u j _) F v5 (yN A w j) C;exact⟨g,s,(W.and (O.and (v1.Xi.and (v3.Xi.and v4.Xi)))).mono fun E K ⟨z0,z1,z2,z3,z4⟩=>.div R.1 v k1 z1 (.mk Q.1 (Qv R Q).1 z3 z2 z4) a0 z0,X,Y⟩
theorem P3 {B:Xr}(s:StdO B){y by_ lp:PL}{l:Nat}(g:65535<=l){d:Bool}{o:List (List Int)}(A:S6 y o)(w:VE o)(i:o.length<1000000){b:List (List PL)}{c:List Dv}(v:Sl by_ b)(e:gZ b c)(I:c.length<1000000){p:List Qm}(K:PQ lp p)(H:Tk p)(J:p.length<60000)
  {n:Nat} {a:List (List Qm)} {z:List Qm} (h:aW o Sq PR XL c d n (Va o p) (List.replicate c.length []) [] a z):
  ∃m q,Xs B 67 [.agg [y,by_,.int .i64 (.ofNat l),.bool d],.one lp] (.XY [.one (.Xv (Xu m)),.one q,.one (.bool true)])/\T6 m a/\PQ q z:=by
 obtain⟨Q,F,D,P,G⟩:=TW s A w i K H J;have f:=e.length;have j:∀n,XF X2 (List.replicate n []) (List.replicate n []):=fun n=>by
  induction n with
  |zero=>exact .nil
  |succ n t=>exact .cons .nil t
 obtain⟨C,u,r,k,E⟩:=xD s.toStd (by_:=by_) g A w i e h D (List.replicate c.length []) [] G (j _) .nil;rw[<-f]at r;obtain⟨m,q,x,N,O⟩:=lH s.toStd v (by omega) F P r;refine⟨m,q,x,?_,u,O,E⟩;clear x r h;induction N generalizing a with
 |nil=>cases k;exact .nil
 |cons L _ t=>cases k with |cons M k=>exact .cons ⟨_,L,M⟩ (t k)
end Go.Proofs.YtefpgecinlekpaaGreat
namespace Go.Num
def P0:List Dv->List (List Qm)->List (List Qm)->List (List Qm)
 |d::ds,q::qs,acc=>P0 ds qs (acc.set d.2.2.2 (Va [] q))
 |_,_,acc=>acc
theorem ji:∀(b:List Dv) (c a:List (List Qm)),(P0 b c a).length=a.length
 |[],_,_=>rfl
 |_::_,[],_=>rfl
 |d::b,q::c,a=>by rw[P0,ji];simp
end Go.Num
namespace Go.Proofs.YtefpgecinlekpaaGreat
open Go.Ev Go.Num
theorem yx {B:Xr}(a:Std B):Xs B 84 [] (.one (.Xv [])):=by
 refine Xs.of (a.X6 _ _ rfl) (a.Xi.mono fun E K b=> ?_);simp(decide:=true)only[Xp,Xq,reduceIte,x84]
theorem tB:S6 (.Xv []) []:=.Xv
theorem zY {E:Xb}{K k i n g:Nat}(w:E.mode=md){j rr O P:PL}{d:List (List PL)}(y:Sl j d)(X:d.length<1000000){s f:List PL}{a b c e p q:PL}{m:List Nat}(A:d[i]? =some (Sb a b c e m p q g))(B:m.length=8)(V:s[i]? =some O)(l:g<f.length)(W:f.length=n)
  (T:E.pure 84 []=some (.one (.Xv []))) (U:E.pure 83 [.one O,.one (.Xv [])]=some (.one P)) (z:Xz) (G:List Xz):
  ∃Q,Xc E K 0 [10,11,13,37,38,39] x48_1 (k+1) ⟨[(10,.one (.p (.Xv (Xu s)))),(11,.one (.p rr)),(13,.one (.own 1 0 0 n)),(37,.one (.p j)),(38,.one (.p (.int .i64 (.ofNat d.length)))),(39,.one (.p (.int .i64 (.ofNat i))))],z::qB f::G⟩=
   Xc E K 0 [10,11,13,37,38,39] x48_1 k ⟨[(10,.one (.p (.Xv (Xu s)))),(11,.one (.p rr)),(13,.one (.own 1 0 0 n)),(37,.one (.p j)),(38,.one (.p (.int .i64 (.ofNat d.length)))),(39,.one (.p (.int .i64 (.ofNat (i+1)))))],z::qB (f.set g P)::Q⟩:=by
 subst W;have v:i<d.length:=(Zd.mp A).1;have C:=fun(u:HF) (x:IntKind)=>y.idx (h:=u) (k:=x) (sz:=15) A (by simp[Sb,Xy,B])
 have sl:Sl (.Xv (Xu s)) (Xu s):=.Xv;have Y:=fun(u:HF) (x:IntKind)=>sl.idx (h:=u) (k:=x) (sz:=1) (XI V) rfl
 have S:Xe .i64 (.ofNat (i+1))=.ofNat (i+1):=wrap_i64 (by omega);obtain⟨D,F,H,I,J,L,M,N,rfl⟩:=eight B;have R:mo [D,F,H,I,J,L,M,N]=[.int .i64 (.ofNat D),.int .i64 (.ofNat F),.int .i64 (.ofNat H),.int .i64 (.ofNat I),.int .i64 (.ofNat J),.int .i64 (.ofNat L),.int .i64 (.ofNat M),.int .i64 (.ofNat N)]:=rfl;simp only[Sb,R,ZR,ZO]at C;obtain⟨Z,r⟩:∃o,f[g]? =some o:=⟨_,Zg l⟩;have t:=sT r;apply Exists.intro;rw[Xc];simp(decide:=true)only[Xp,Xq,VN,WR,reduceIte,Nat.reduceEqDiff,Nat.reduceLeDiff,Nat.reduceAdd,x48_1,w,XW,v,C,Y,S,T,U,l,t,sS,Wa,Wf,Zl,Zs];rfl
inductive AA (E:Xb):List (List PL)->List PL->List PL->List PL->Prop
 |done {lqs:List PL}:AA E [] [] lqs lqs
 |next {a b c e p q li nq:PL} {m:List Nat} {at_:Nat} {dcs:List (List PL)} {ls lqs lqs':List PL} (hm:m.length=8) (hat:at_<lqs.length) (h2:E.pure 83 [.one li,.one (.Xv [])]=some (.one nq)) (h:AA E dcs ls (lqs.set at_ nq) lqs'):AA E (Sb a b c e m p q at_::dcs) (li::ls) lqs lqs'
theorem sK {B:Xr}(t:StdO B):∀{k:List (List PL)} {s:List Dv},gZ k s->∀{m:List PL} {n:List (List Qm)},T6 m n->m.length=k.length->(∀q∈n,Tk q/\q.length<60000)->∀{j:List PL} {i:List (List Qm)},T6 j i->(∀d∈s,d.2.2.2<i.length)->
  ∃g,(X0 B fun E _=>AA E k m j g)/\T6 g (P0 s n i)
 |_,_,.nil,m,n,l,hl,_,j,i,ha,_=>by
  cases l with
  |nil=>exact⟨j,X0.of fun _ _=>.done,ha⟩
  |cons _ _=>simp at hl
 |_,_,.cons (x:=dc) (y:=d) hd h,m,n,l,hl,hs,j,i,ha,hat=>by
  cases l with
  |nil=>simp at hl
  |@cons M q m n D l=>
   obtain⟨H,I⟩:=hs q (Ze ..);obtain⟨N,w,z⟩:=TW t tB (o:=[]) (fun _ h=>by cases h) (by simp) D H I;obtain⟨g,A,C⟩:=sK t h l (by simpa using hl) (fun q l=>hs q (Zc _ l)) (ha.set z d.2.2.2) (fun e F=>by rw[ZZ];exact hat e (Zc _ F));have v:=ha.length;have u:=hat d (Ze ..);obtain⟨a,b,c,f,p,r,rfl,O,G,J,L⟩:=hd;exact⟨g,(w.Xi.and A).mono fun E K ⟨e1,e2⟩=>.next G.1 (by omega) e1 e2,C⟩
theorem Du {E:Xb}{K n:Nat}(z:E.mode=md){o rr:PL}{d:List (List PL)}(D:Sl o d)(A:d.length<1000000){lsa:List PL}(S:E.pure 84 []=some (.one (.Xv [])))(r:Xz){l:List (List PL)}{C f g:List PL}(h:AA E l C f g):∀(i k:Nat) (G:List Xz),d.drop i=l->lsa.drop i=C->i+l.length=d.length->f.length=n->l.length<k->
  ∃j t,Xc E K 0 [10,11,13,37,38,39] x48_1 k ⟨[(10,.one (.p (.Xv (Xu lsa)))),(11,.one (.p rr)),(13,.one (.own 1 0 0 n)),(37,.one (.p o)),(38,.one (.p (.int .i64 (.ofNat d.length)))),(39,.one (.p (.int .i64 (.ofNat i))))],r::qB f::G⟩=some (.exit 0,⟨j,r::qB g::t⟩)/\(Xh j 11=some (.one (.p rr))/\Xh j 13=some (.one (.own 1 0 0 n)))/\g.length=n:=by
 induction h with
 |@done f=>
  intro i k G F I x s H;obtain⟨k,rfl⟩:∃B,k=B+1:=⟨k-1,by omega⟩;have y:¬i<d.length:=by simp at x;omega
  have :∃j,Xc E K 0 [10,11,13,37,38,39] x48_1 (k+1) ⟨[(10,.one (.p (.Xv (Xu lsa)))),(11,.one (.p rr)),(13,.one (.own 1 0 0 n)),(37,.one (.p o)),(38,.one (.p (.int .i64 (.ofNat d.length)))),(39,.one (.p (.int .i64 (.ofNat i))))],r::qB f::G⟩=some (.exit 0,⟨j,r::qB f::G⟩)/\(Xh j 11=some (.one (.p rr))/\Xh j 13=some (.one (.own 1 0 0 n))):=by
   apply VM
   ·rw[Xc];simp only[Xp,Xq,reduceIte,Nat.reduceEqDiff,x48_1,y];rfl
   ·simp only[Xp,reduceIte,Nat.reduceEqDiff,and_self]
  obtain⟨j,u,v⟩:=this;exact⟨j,G,u,v,s⟩
 |@next a b c e p q W X m L l C f g U w T h V=>
  intro i k G F I x s H;obtain⟨k,rfl⟩:∃B,k=B+1:=⟨k-1,by omega⟩;simp only[Zi]at x H;obtain⟨R,N⟩:=Xf F;obtain⟨Q,M⟩:=Xf I;obtain⟨J,u⟩:=zY (K:=K) (k:=k) (n:=n) (rr:=rr) z D A R U Q w s S T r G;obtain⟨j,t,v,O,P⟩:=V (i+1) k J N M (by omega) (by rw[ZZ];exact s) (by omega);exact⟨j,t,u.trans v,O,P⟩
theorem nL {B:Xr}(j:StdO B){z L W:PL}{o:List (List Int)}(Y:S6 z o)(S:VE o)(v:o.length<1000000)(hv:Xs B 57 [.one z] (.one (.bool true))){a:List PL}{c:List (List Qm)}(X:Sl L (Xu a))(s:T6 a c)(G:∀f∈c,Tk f/\f.length<60000)(hl:c.length<400000)
  {p:List Qm} (hp:PQ W p) (J:Tk p) (m:p.length<60000) (I:(Wz o c 0).length<1000000) (F:∀d∈Wz o c 0,d.2.2.2<c.length)
  {n:Nat} {e:List (List Qm)} {A:List Qm} (h:aW o Sq PR XL (Wz o c 0) false n (Va o p) (List.replicate (Wz o c 0).length []) [] e A) (hq:∀q∈e,Tk q/\q.length<60000) (N:e.length=(Wz o c 0).length) (hr:Tk A) (O:A.length<60000):
  ∃x y,Xs B 48 [.one W,.one L,.one z] (.XY [.one (.Xv (Xu x)),.one y,.one (.int .i64 (.ofNat 0))])/\T6 x (P0 (Wz o c 0) e (List.replicate c.length []))/\PQ y (Va [] A):=by
 obtain⟨i,C,h1,r,D⟩:=Rn j Y S v X s G hl;obtain⟨ls,y,h3,R,h5⟩:=P3 j (by_:=i) (l:=65535) (by omega) Y S v r D I hp J m h;obtain⟨P,h6,h7⟩:=TW j tB (o:=[]) (fun _ h=>by cases h) (by simp) h5 hr O;have hx:=yx j.toStd;have w:∀n,T6 (List.replicate n .XJ) (List.replicate n []):=fun n=>by
  induction n with
  |zero=>exact .nil
  |succ n ih=>exact .cons ⟨[],.nil,.nil⟩ ih
 have t:=s.length;have H:=D.length;obtain⟨b,g1,g2⟩:=sK j D R (by rw[R.length,N,H]) hq (w c.length) (fun d G=>by rw[List.length_replicate];exact F d G);refine⟨b,P,Xs.of (j.X6 _ _ rfl) ((g1.and (h1.Xi.and (h3.Xi.and (h6.Xi.and (hx.Xi.and (hv.Xi.and (j.toStd.Xi.and (X0.ge (C.length+1))))))))).mono fun E K ⟨e0,e1,e3,e6,Q,ev,u,hK⟩=> ?_),g2,h7⟩;obtain⟨T',G',U,⟨k2,k3⟩,V⟩:=Du (K:=K) (n:=a.length) (rr:=y) u r (by omega) (lsa:=ls) Q ⟨false,0,4,[[.p z,.p i,.p (.int .i64 (.ofNat 65535)),.p (.bool false)]],false,94⟩ e0 0 K [] rfl rfl (by omega) (by rw[List.length_replicate,t]) (by omega);have g:=X.len;rw[XH]at g;have k:=r.len;have M:pc (Xu (List.replicate c.length .XJ))=List.replicate a.length [.p .XJ]:=by simp[pc,Xu,t]
 simp only[qB,M]at U;have Z:24*a.length<=lim:=by unfold lim;omega
 have b2:a.length<=9223372036854775807:=by omega
 have T:=Ui (Xu b) (Zh _);have hf:=fun h=>Ux 5 h (Xu b)
 rw[XH,V]at T;have m:(pc (Xu b)).length=a.length:=by rw[kT,V]
 simp(decide:=true)only[Xp,Xq,WR,reduceIte,Nat.reduceAdd,Zh,x48,u,XW,g,k,e1,e3,e6,Q,ev,Z,b2,U,k2,k3,T,hf,m]
end Go.Proofs.YtefpgecinlekpaaGreat
