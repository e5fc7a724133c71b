/- Division: divide, the loop. -/
import Derived.Test.YtidginchkjhobaaGreatQDvd
set_option maxHeartbeats 16000000
set_option maxRecDepth 100000
namespace Go.Proofs.YtidginchkjhobaaGreat
open Go.Ev Go.Num
theorem B1 {E:Xa}{K k n l:Nat}{e:Bool}(D:E.mode=md){I b:PL}{q d:List (List PL)}(j:Sl b q){m:List Nat}(t:m.length=8){x y z u:PL}{H o:List Xz}{T:List (Nat×DV)}{r:DL}{a:List (List PL)}
  (B:H[0]? =some (S5 I b l (.bool e))) (v:Xb E K 0 [2,7,8,9,10,32,33,34] x99_1 K ⟨BM n r (.Xp ((x::y::z::u::mo m)::d)) b H.length q.length 0,H++[Uj x y z u m]⟩=some (.exit 1,⟨T,o⟩)) (g:T4 T n r (.p (.Xp a))):
  Xb E K 0 [2,7,8,9] x99_2 (k+1) ⟨[(2,.one (.ptr 0 0 0 0)),(7,.one (.own 1 0 0 n)),(8,.one r),(9,.one (.p (.Xp ((x::y::z::u::mo m)::d))))],H⟩=Xb E K 0 [2,7,8,9] x99_2 k ⟨[(2,.one (.ptr 0 0 0 0)),(7,.one (.own 1 0 0 n)),(8,.one r),(9,.one (.p (.Xp a)))],o⟩:=by
 obtain⟨J,L,M,N⟩:=g;have A:Sl (.Xp ((x::y::z::u::mo m)::d)) _:=.Xp;have c:=A.len;have F:=fun(C:HF) (G:IntKind)=>A.idx (h:=C) (k:=G) (i:=0) (sz:=12) rfl (by simp[XI,t])
 have O:(Xu m).take 8=Xu m:=Zd (by rw[Xc];omega);have P:(Xu m).drop 8=[]:=Zm (by rw[Xc];omega);have w:=XT m;have s:=Wo B;have f:=j.len;simp only[Uj]at v;simp only[S5]at s B;rw[Xb];simp(decide:=true)only[Xm,Xq,reduceIte,Nat.reduceAdd,x99_2,Wk,Xc,We,Wg,Zk,Zt,YP,c,F,O,s,f,v,J,L,M,N,t,Nat.reduceBEq,BEq.rfl]
abbrev Dl (n:Nat)(r:DL)(lp:PL):List (Nat×DV):=[(2,.one (.ptr 0 0 0 0)),(7,.one (.own 1 0 0 n)),(8,.one r),(9,.one (.p lp))]
theorem zW {E:Xa}{K k n:Nat}{r:DL}{c:PL}(d:Sl c [])(H:List Xz):
  ∃b,Xb E K 0 [2,7,8,9] x99_2 (k+1) ⟨Dl n r c,H⟩=some (.exit 0,⟨b,H⟩)/\Xh b 7=some (.one (.own 1 0 0 n))/\Xh b 8=some (.one r):=by
 have a:=d.len;apply VE
 ·rw[Xb];simp only[Xm,Xq,reduceIte,Nat.reduceEqDiff,x99_2,a,Zx];rfl
 ·simp only[Xm,reduceIte,Nat.reduceEqDiff,and_self]
inductive me (E:Xa)(lo by_:PL)(l:Nat)(fst:Bool)(ds:List (List PL)):Nat->List (List PL)->List (List (List PL))->List (List PL)->List (List (List PL))->List (List PL)->Prop
 |done {cs:List (List (List PL))} {r:List (List PL)}:me E lo by_ l fst ds 0 [] cs r cs r
 |yh {n:Nat} {cs cs':List (List (List PL))} {r r' es:List (List PL)} {x y z u:PL} {m:List Nat} (hf:fst=false) (hm:m.length=8) (h12:∀d∈es,d.length=12) (hr:r.length<1000000)
   (hs:∀j,j<ds.length->∃d,ds[j]? =some d/\pZ E m d) (h:me E lo by_ l fst ds n es cs (r++[x::y::z::u::mo m]) cs' r'):me E lo by_ l fst ds (n+1) ((x::y::z::u::mo m)::es) cs r cs' r'
 |yg {cs:List (List (List PL))} {r es:List (List PL)} {x y z u:PL} {m:List Nat} (hf:fst=true) (hm:m.length=8) (h12:∀d∈es,d.length=12) (hr:r.length<1000000)
   (hs:∀j,j<ds.length->∃d,ds[j]? =some d/\pZ E m d):me E lo by_ l fst ds 1 ((x::y::z::u::mo m)::es) cs r cs (r++[x::y::z::u::mo m])
 |div {n j:Nat} {cs cs':List (List (List PL))} {r r' es outs:List (List PL)} {d t:List PL} {x y z u:PL} {m:List Nat} (hm:m.length=8) (h12:∀d∈es,d.length=12) (hj:ds[j]? =some d)
   (hs:∀i,i<j->∃d,ds[i]? =some d/\pZ E m d) (hd:D8 E lo by_ l fst x y z u m es d t outs) (hc:∀c∈cs,c.length<1000000) (h:me E lo by_ l fst ds n outs (fH fst cs j t) r cs' r'):me E lo by_ l fst ds (n+1) ((x::y::z::u::mo m)::es) cs r cs' r'
theorem DS {E:Xa}{K l:Nat}{Y:Bool}(f:E.mode=md){lo by_:PL}{b:List (List PL)}(o:Sl by_ b)(w:b.length<1000000)(hK:b.length<K){n:Nat}{left:List (List PL)}{cs S:List (List (List PL))}{rc U:List (List PL)}(h:me E lo by_ l Y b n left cs rc S U):
  ∀(k:Nat) (lp:PL) (H:List Xz) (r:aU) (s:List aU),n<k->Sl lp left->dA lo by_ l Y H r s->s.length=b.length->s.map wY=cs->wY r=rc->
   ∃A G F c,Xb E K 0 [2,7,8,9] x99_2 k ⟨Dl b.length (eP r) lp,H⟩=some (.exit 0,⟨A,G⟩)/\(Xh A 7=some (.one (.own 1 0 0 b.length))/\Xh A 8=some (.one (eP F)))/\dA lo by_ l Y G F c/\c.length=b.length/\c.map wY=S/\wY F=U:=by
 induction h with
 |done=>
  intro k lp H r s hk sl I e e1 e2;obtain⟨k,rfl⟩:∃k',k=k'+1:=⟨k-1,by omega⟩;obtain⟨A,O,Z⟩:=zW (E:=E) (K:=K) (k:=k) (n:=b.length) (r:=eP r) sl H;exact⟨A,H,r,s,O,Z,I,e,e1,e2⟩
 |@yh n cs S rc U N x y z u m hf P C hr Q h ih=>
  intro k lp H r s hk sl I e e1 e2;obtain⟨k,rfl⟩:∃k',k=k'+1:=⟨k-1,by omega⟩;obtain rfl:=Sl.Vr sl;subst hf;obtain⟨J,V⟩:=aC (K:=K) (n:=b.length) (it:=H.length) (r:=eP r) (lp:=.Xp ((x::y::z::u::mo m)::N)) f o w P b.length 0 (K-b.length) (H++[Uj x y z u m]) (fun j _ h=>Q j (by omega)) (by rw[We]);rw[Nat.sub_add_cancel (by omega),Z8]at V;obtain⟨T,W,X,j4⟩:=ui (E:=E) (K:=K) (k:=K-b.length-1) (n:=b.length) (it:=H.length) (r:=eP r) (lp:=.Xp ((x::y::z::u::mo m)::N)) (by_:=by_) (nd:=b.length) (H++[Uj x y z u m]++J);rw[show K-b.length-1+1=K-b.length by omega]at W;have hx:=V.trans W;have a:=(I.app [Uj x y z u m]).app J;have B:(H++[Uj x y z u m]++J)[H.length]? =some (Uj x y z u m):=Wo (by rw[We]) J;have g:(r::s)[0]? =some r:=rfl;cases r with
  |none=>
   obtain⟨R,O,Z⟩:=wE (K:=K) (k:=k) f o w P C I.z0 hx X j4 B a.z0;have D:=a.new (p:=0) (id:=(H++[Uj x y z u m]++J).length+1) (v:=0) (es:=[x::y::z::u::mo m]) g (r':=some (_,0,[_])) (xs':=s) rfl (H':=H++[Uj x y z u m]++J++R) (fun i _ hl=>ZB hl) (Wo a.z1 R) (by omega) (by rw[W5];exact Z);obtain⟨A,G,F,c,k1,k2⟩:=ih k (.Xp N) _ _ s (by omega) .Xp D e e1 (by rw[<-e2];rfl);exact⟨A,G,F,c,O.trans k1,k2⟩
  |some q=>
   obtain⟨id,v,L⟩:=q;have M:L=rc:=e2;have ho:=a.own 0 id v L g;obtain⟨R,O⟩:=wC (K:=K) (k:=k) f o w P C ho.1 (by rw[M];exact hr) I.z0 hx X j4 B a.z0;have hl:=a.lt g;have D:=a.grow (p:=0) g (v+1) (L++[x::y::z::u::mo m]) (r':=some (id,v+1,L++[_])) (xs':=s) rfl (H':=(H++[Uj x y z u m]++J).set id (T7 (v+1) (L++[x::y::z::u::mo m]))) (fun i _=>rfl) (by rw[ZM (by have:=ho.2;omega)];exact a.z1);obtain⟨A,G,F,c,k1,k2⟩:=ih k (.Xp N) _ _ s (by omega) .Xp (D.app R) e e1 (by rw[<-M];rfl);exact⟨A,G,F,c,O.trans k1,k2⟩
 |@yg cs rc N x y z u m hf P C hr Q=>
  intro k lp H r s hk sl I e e1 e2;obtain⟨k,rfl⟩:∃k',k=k'+1:=⟨k-1,by omega⟩;obtain rfl:=Sl.Vr sl;subst hf;obtain⟨J,V⟩:=aC (K:=K) (n:=b.length) (it:=H.length) (r:=eP r) (lp:=.Xp ((x::y::z::u::mo m)::N)) f o w P b.length 0 (K-b.length) (H++[Uj x y z u m]) (fun j _ h=>Q j (by omega)) (by rw[We]);rw[Nat.sub_add_cancel (by omega),Z8]at V;obtain⟨T,W,X,j4⟩:=ui (E:=E) (K:=K) (k:=K-b.length-1) (n:=b.length) (it:=H.length) (r:=eP r) (lp:=.Xp ((x::y::z::u::mo m)::N)) (by_:=by_) (nd:=b.length) (H++[Uj x y z u m]++J);rw[show K-b.length-1+1=K-b.length by omega]at W;have hx:=V.trans W;have a:=(I.app [Uj x y z u m]).app J;have B:(H++[Uj x y z u m]++J)[H.length]? =some (Uj x y z u m):=Wo (by rw[We]) J;have g:(r::s)[0]? =some r:=rfl;cases r with
  |none=>
   obtain⟨A,R,O,Z,g3⟩:=wD (K:=K) (k:=k) f o w P C I.z0 hx X j4 B a.z0;have D:=a.new (p:=0) (id:=(H++[Uj x y z u m]++J).length+1) (v:=0) (es:=[x::y::z::u::mo m]) g (r':=some (_,0,[_])) (xs':=s) rfl (H':=H++[Uj x y z u m]++J++R) (fun i _ hl=>ZB hl) (Wo a.z1 R) (by omega) (by rw[W5];exact g3);exact⟨A,_,some ((H++[Uj x y z u m]++J).length+1,0,[x::y::z::u::mo m]),s,O,Z,D,e,e1,by rw[<-e2];rfl⟩
  |some q=>
   obtain⟨id,v,L⟩:=q;have M:L=rc:=e2;have ho:=a.own 0 id v L g;obtain⟨A,R,O,Z⟩:=wB (K:=K) (k:=k) f o w P C ho.1 (by rw[M];exact hr) I.z0 hx X j4 B a.z0;have hl:=a.lt g;have D:=a.grow (p:=0) g (v+1) (L++[x::y::z::u::mo m]) (r':=some (id,v+1,L++[_])) (xs':=s) rfl (H':=(H++[Uj x y z u m]++J).set id (T7 (v+1) (L++[x::y::z::u::mo m]))) (fun i _=>rfl) (by rw[ZM (by have:=ho.2;omega)];exact a.z1);exact⟨A,_,some (id,v+1,L++[x::y::z::u::mo m]),s,O,Z,D.app R,e,e1,by rw[<-M];rfl⟩
 |@div n j cs S rc U N a0 d t x y z u m P C hj Q hd hc h ih=>
  intro k lp H r s hk sl I e e1 e2;obtain⟨k,rfl⟩:∃k',k=k'+1:=⟨k-1,by omega⟩;obtain rfl:=Sl.Vr sl;have a2:j<b.length:=(Zb.1 hj).1;obtain⟨J,V⟩:=aC (K:=K) (n:=b.length) (it:=H.length) (r:=eP r) (lp:=.Xp ((x::y::z::u::mo m)::N)) f o w P j 0 (K-j) (H++[Uj x y z u m]) (fun i _ h=>Q i (by omega)) (by rw[We]);rw[Nat.sub_add_cancel (by omega),Z8]at V;have a:=(I.app [Uj x y z u m]).app J;have B:(H++[Uj x y z u m]++J)[H.length]? =some (Uj x y z u m):=Wo (by rw[We]) J;obtain⟨T,H2,a1,W,X,j4,j5,j6⟩:=BZ (K:=K) (k:=K-j-1) (c0:=x::y::z::u::mo m) f o w e hj P C hd B a (fun x hx=>hc _ (by rw[<-e1];exact ZQ.2 ⟨x,hx,rfl⟩));rw[show K-j-1+1=K-j by omega,e]at W;rw[e]at X;have O:=B1 (K:=K) (k:=k) f o P I.z0 (V.trans W) X;obtain⟨A,G,F,c,k1,k2⟩:=ih k (.Xp a0) H2 r a1 (by omega) .Xp j4 (by rw[j6,e]) (by rw[j5,e1]) e2;exact⟨A,G,F,c,O.trans k1,k2⟩
def vz:aU->PL
 |none=>.XC
 |some (_,_,es)=>.Xp es
theorem yC (x:aU):Sl (vz x) (wY x):=by
 cases x with
 |none=>exact .nil
 |some q=>obtain⟨id,v,a⟩:=q;exact .Xp
theorem BP {H:List Xz}{x:aU}(h:∀id v a,x=some (id,v,a)->H[id]? =some (T7 v a))(n:Nat):XA (n+1) (Xn H) (eP x)=some (vz x):=by
 cases x with
 |none=>rfl
 |some q=>
  obtain⟨id,v,a⟩:=q;have b:=h id v a rfl;have f:=VA a (Zh _);have d:=VK n (Xn H) a;have e:Xn H id=some (T7 v a):=b;have c:(Nat.beq v v&& !false&&Nat.ble (0+a.length) (pc a).length)=true:=by simp[Wl]
  simp only[eP,XA,e,c,cond_true,Yb,f,d,vz]
theorem jE {h:HF}{n:Nat}:∀{xs:List aU},(∀x∈xs,XA n h (eP x)=some (vz x))->Xt (Xt (XA n h)) (V1 xs)=some (Xf (xs.map vz))
 |[],_=>rfl
 |x::xs,hx=>by
  have a:=jE (xs:=xs) fun y c=>hx y (Zc _ c)
  have b:=hx x (Ze ..);simp only[V1]at a;simp only[V1,Zr,Xt,b,a,Xf]
theorem dA.wX {p a:PL}{l:Nat}{b:Bool}{H:List Xz}{r:aU}{xs:List aU}(h:dA p a l b H r xs):XY (Xn H) (.one (.own 1 0 0 xs.length))=some (.one (.Xp (Xf (xs.map vz))))/\XY (Xn H) (.one (eP r))=some (.one (vz r)):=by
 have d:∀(n i:Nat) (x:aU),(r::xs)[i]? =some x->XA (n+1) (Xn H) (eP x)=some (vz x):=fun n i x c=>BP (fun id v f e=>(h.own i id v f (by rw[c,e])).1) n
 constructor
 ·have g:=jE (h:=Xn H) (n:=5) (xs:=xs) fun x m=>by
   obtain⟨i,c⟩:=ZC.1 m;exact d 4 (i+1) x (by rw[Yr];exact c)
  have e:Xn H 1=some (Dg (V1 xs)):=h.z1;have k:(Nat.beq 0 0&& !false&&Nat.ble (0+xs.length) (V1 xs).length)=true:=by simp[V1]
  have o:(V1 xs).take xs.length=V1 xs:=Zd (by simp[V1]);simp only[XY,Ww,XA,e,k,cond_true,Yb,o,g]
 ·have j:=d 5 0 r rfl;simp only[XY,Ww,j]
theorem dA.start {e a:PL}{l:Nat}{b:Bool}(n:Nat):dA e a l b [S5 e a l (.bool b),Dg (List.replicate n [.p .XC])] none (List.replicate n none):=by
 have d:∀(i:Nat) (y:Nat×Nat×List (List PL)),((none:aU)::List.replicate n none)[i]? =some (some y)->False:=fun i y c=>by
  have:=Zn c;rcases Zj.1 this with h|h
  ·cases h
  ·have:=(List.mem_replicate.1 h).2;cases this
 refine⟨rfl,?_,fun i id v f c=>(d i _ c).elim,fun i j id v f k g c _=>(d i _ c).elim⟩;show some _=_;simp[V1,eP]
theorem lQ {B:Xs}(A:Std B){m b u t:PL}{l n:Nat}{e:Bool}{c left v:List (List PL)}{d:List (List (List PL))}(j:Sl b c)(s:c.length<1000000)(L:Xx B 140 [.one u,.one m] (.one t))(Q:Sl t left)
  (O:X1 B fun E _=>me E m b l e c n left (List.replicate c.length []) [] d v):
  ∃f g,Xx B 99 [.agg [m,b,.int .i64 (.ofNat l),.bool e],.one u] (.XZ [.one (.Xp (Xf f)),.one g,.one (.bool true)])/\XF Sl f d/\Sl g v:=by
 obtain⟨r,M,f,g,rfl,N⟩:=Xx.yK (p:=fun r=>∃f g,r=.XZ [.one (.Xp (Xf f)),.one g,.one (.bool true)]/\XF Sl f d/\Sl g v) (A.Wa 99 _ rfl) (a:=[.agg [m,b,.int .i64 (.ofNat l),.bool e],.one u]) ((O.and (L.Xj.and (A.Xj.and (X1.ge (c.length+n+2))))).mono fun E K ⟨e1,e2,i,T⟩=>by
  obtain⟨S,R,C,k,q,⟨H,I⟩,w,y,z,J⟩:=DS (K:=K) i j s (by omega) e1 K t _ none (List.replicate c.length none) (by omega) Q (dA.start c.length) (by simp) (by simp[wY]) rfl;obtain⟨o,G⟩:=w.wX;rw[y]at o;refine⟨_,?_,k.map vz,vz C,rfl,?_,by rw[<-J];exact yC C⟩
  ·have h:=j.len;have D:24*c.length<=lim:=by unfold lim;omega
   have F:c.length<=9223372036854775807:=by omega
   simp only[Dl,S5,Dg,eP]at q;simp only[Xm,Xq,Vm,reduceIte,Nat.reduceEqDiff,Nat.reduceLeDiff,Nat.reduceAdd,Zh,x99,i,X5,h,D,F,e2,q,H,I,o,G]
  ·rw[<-z];clear o w y z q;induction k with
   |nil=>exact .nil
   |cons x U P=>exact .cons (yC x) P)
 exact⟨f,g,M,N⟩
end Go.Proofs.YtidginchkjhobaaGreat
namespace Go.Num
abbrev Dv:=Qm×List Qm×List Qm×Nat
def Tw (m:List Nat):List Dv->Nat->Option Nat
 |[],_=>none
 |d::ds,i=>if WO d.1.2 m=true then some i else Tw m ds (i+1)
theorem TC {m:List Nat}:∀{a:List Dv} {i:Nat},Tw m a i=none->∀d∈a,WO d.1.2 m=false
 |[],_,_,d,hd=>by cases hd
 |e::a,i,h,d,hd=>by
  unfold Tw at h;split at h
  ·cases h
  ·rename_i b;rcases Zj.1 hd with rfl|hd
   ·simpa using b
   ·exact TC h d hd
theorem SY {m:List Nat}:∀{a:List Dv} {i j:Nat},Tw m a i=some j->∃d,i<=j/\a[j-i]? =some d/\WO d.1.2 m=true/\∀k,k<j-i->∃e,a[k]? =some e/\WO e.1.2 m=false
 |[],_,_,h=>by cases h
 |e::a,i,j,h=>by
  unfold Tw at h;split at h
  ·rename_i b;cases h;exact⟨e,Zh _,by rw[YV];rfl,b,fun k n=>by omega⟩
  ·rename_i b;obtain⟨d,q,f,g,l⟩:=SY h;refine⟨d,by omega,?_,g,fun k n=> ?_⟩
   ·rw[show j-i=(j-(i+1))+1 by omega,Yr];exact f
   ·cases k with
    |zero=>exact⟨e,rfl,by simpa using b⟩
    |succ k=>
     obtain⟨c,o,p⟩:=l k (by omega);exact⟨c,by rw[Yr];exact o,p⟩
def fI (fst:Bool)(qs:List (List Qm))(j:Nat)(t:Qm):List (List Qm):=match fst with
 |true=>qs
 |false=>match qs[j]? with
  |some q=>qs.set j (q++[t])
  |none=>qs
inductive aR (o:List (List Int))(sz1:Rat->Prop)(sz:List Qm->Prop)(ok:List Nat->Prop)(ds:List Dv)(fst:Bool):Nat->List Qm->List (List Qm)->List Qm->List (List Qm)->List Qm->Prop
 |done {qs:List (List Qm)} {r:List Qm}:aR o sz1 sz ok ds fst 0 [] qs r qs r
 |yh {n:Nat} {t:Qm} {p:List Qm} {qs qs':List (List Qm)} {r r':List Qm} (hf:fst=false) (c2:sz r) (hn:Tw t.2 ds 0=none) (h:aR o sz1 sz ok ds fst n p qs (r++[t]) qs' r'):aR o sz1 sz ok ds fst (n+1) (t::p) qs r qs' r'
 |yg {t:Qm} {p:List Qm} {qs:List (List Qm)} {r:List Qm} (hf:fst=true) (c2:sz r) (hn:Tw t.2 ds 0=none):aR o sz1 sz ok ds fst 1 (t::p) qs r qs (r++[t])
 |div {n j:Nat} {t:Qm} {d:Dv} {p:List Qm} {qs qs':List (List Qm)} {r r':List Qm} (c1:sz p) (c3:sz1 t.1) (c4:sz1 d.1.1) (c5:sz1 (XQ t d.1).1) (c6:sz d.2.2.1) (c7:∀u∈d.2.2.1,ok (Xg u.2 (XQ t d.1).2)/\u.1≠0/\sz1 (-(XQ t d.1).1*u.1)) (c8:d.1.1≠0) (c9:(XQ t d.1).1≠0) (c10:∀q∈qs,sz q)
   (hj:Tw t.2 ds 0=some j) (hd:ds[j]? =some d) (h:aR o sz1 sz ok ds fst n (Tq o (-(XQ t d.1).1) (XQ t d.1).2 p d.2.2.1) (fI fst qs j (XQ t d.1)) r qs' r'):aR o sz1 sz ok ds fst (n+1) (t::p) qs r qs' r'
end Go.Num
namespace Go.Proofs.YtidginchkjhobaaGreat
open Go.Ev Go.Num
theorem eQ {B:Xs}(v:Std B){m:List Nat}(x:XE m){g:List (List PL)}{k:List Dv}(j:gX g k)(n:Nat)(h:∀i,i<n->∃e,k[i]? =some e/\WO e.1.2 m=false):X1 B fun E _=>∀i,i<n->∃d,g[i]? =some d/\pZ E m d:=by
 refine X1.all n fun i w=> ?_
 obtain⟨e,o,s⟩:=h i w;obtain⟨d,t,u⟩:=j.get i e o;obtain⟨a,b,c,f,p,r,rfl,q,l,z,A⟩:=u;have y:=vw v x l s;exact y.Xj.mono fun E K e1=>⟨_,t,_,_,_,_,_,_,_,_,rfl,l.1,e1⟩
theorem yM {a:Bool}{b:List (List (List PL))}{d:List (List Qm)}(h:XF X4 b d){c:List PL}{t:Qm}(i:W9 c t)(j:Nat):XF X4 (fH a b j c) (fI a d j t):=by
 cases a with
 |true=>exact h
 |false=>
  unfold fH fI;cases e:d[j]? with
  |none=>
   have k:=h.length;have :b[j]? =none:=YB (by rw[k];exact List.getElem?_eq_none_iff.1 e);simp only[this];exact h
  |some q=>
   obtain⟨x,f,g⟩:=h.get j q e;simp only[f];exact h.set j _ _ (g.append (.cons i .nil))
theorem xT {B:Xs}(J:Std B){lo by_:PL}{l:Nat}(N:65535<=l){fst:Bool}{o:List (List Int)}(so:SG lo o)(ho:V3 o)(a0:o.length<1000000){z:List (List PL)}{ds:List Dv}(k:gX z ds){n:Nat}{left:List Qm}{L D:List (List Qm)}{r S:List Qm}(h:aR o Sq Pw XE ds fst n left L r D S):
  ∀(f:List (List PL)) (u:List (List (List PL))) (F:List (List PL)),X4 f left->XF X4 u L->X4 F r->∃g s,(X1 B fun E _=>me E lo by_ l fst z n f u F g s)/\XF X4 g D/\X4 s S:=by
 induction h with
 |done=>
  intro f u F I A C;cases I;exact⟨u,F,X1.of fun _ _=>.done,A,C⟩
 |@yh n t p L D r S hf T hn h ih=>
  intro f u F I A C;cases I with
  |@cons c _ f _ m H=>
   obtain⟨g,s,V,W,X⟩:=ih f u (F++[c]) H A (C.append (.cons m .nil));have v:∀d∈f,d.length=12:=fun d G=>R4.len (X4.ax H d G)
   have hl:=T.2;have a5:=C.length;have O:=eQ J m.Nh k z.length fun i y=>by
    rw[k.length]at y;exact⟨_,Zf y,TC hn _ (Yz y)⟩
   have Y:=m.Nh.1;obtain⟨a,b,c',d',rfl,-,-⟩:=m;exact⟨g,s,(V.and O).mono fun E K ⟨e1,e2⟩=>.yh hf Y v (by omega) e2 e1,W,X⟩
 |@yg t p L r hf T hn=>
  intro f u F I A C;cases I with
  |@cons c _ f _ m H=>
   have v:∀d∈f,d.length=12:=fun d G=>R4.len (X4.ax H d G)
   have hl:=T.2;have a5:=C.length;have O:=eQ J m.Nh k z.length fun i y=>by
    rw[k.length]at y;exact⟨_,Zf y,TC hn _ (Yz y)⟩
   have Y:=m.Nh.1;have pa:=C.append (.cons m .nil);obtain⟨a,b,c',d',rfl,-,-⟩:=m;exact⟨u,_,O.mono fun E K e2=>.yg hf Y v (by omega) e2,A,pa⟩
 |@div n j t d p L D r S c1 c3 c4 c5 c6 c7 c8 c9 c10 hj G h ih=>
  intro f u F I A C;cases I with
  |@cons c _ f _ m H=>
   have v:∀d∈f,d.length=12:=fun d G=>R4.len (X4.ax H d G)
   obtain⟨d',f1,U,f3,f4⟩:=SY hj;rw[Nat.sub_zero]at U f4;rw[G]at U;obtain rfl:=Option.some.inj U;have O:=eQ J m.Nh k j f4;obtain⟨dc,k1,k2⟩:=k.get j d G;have a7:=H.length;have l1:=c1.2;have l6:=c6.2;have Z:∀c∈u,c.length<1000000:=fun c hc=>by
    obtain⟨i,y⟩:=ZC.1 hc;have hl:=A.length;have M:i<L.length:=by rw[<-hl];exact(Zb.1 y).1
    obtain⟨x,q1,q2⟩:=A.get i _ (Zf M);rw[y]at q1;obtain rfl:=Option.some.inj q1;have:=(c10 _ (Yz M)).2;have:=q2.length;omega
   obtain⟨a1,a2,a3,a4,pp,rr,rfl,q,Q,a8,a6⟩:=k2;have R:=m.Nh;obtain⟨b1,b2,b3,b4,rfl,qt,-⟩:=m;obtain⟨e,v1,v2⟩:=yn J qt q c3 c4 c8;have v3:=PM J R Q f3;obtain⟨e1,e2,e3,e4,rfl⟩:=v2.len;have w:W9 (.bool e1::e2::.bool e3::e4::mo (X6 t.2 d.1.2)) (XQ t d.1):=W9.mk v2 (TN R Q);obtain⟨P,v4,v5⟩:=kz J (by_:=by_) (fst:=.bool fst) N so ho a0 w c5 c9 (lp:=.Xp f) ⟨_,.Xp,H⟩ c1.1 a6 c6.1 c7 (by omega) (by omega);obtain⟨g,s,V,W,X⟩:=ih P (fH fst u j _) F v5 (yM A w j) C;exact⟨g,s,(V.and (O.and (v1.Xj.and (v3.Xj.and v4.Xj)))).mono fun E K ⟨z0,z1,z2,z3,z4⟩=>.div R.1 v k1 z1 (.mk Q.1 (TN R Q).1 z3 z2 z4) Z z0,W,X⟩
theorem PN {B:Xs}(s:dJ B){y by_ lp:PL}{l:Nat}(g:65535<=l){d:Bool}{o:List (List Int)}(A:SG y o)(w:V3 o)(i:o.length<1000000){b:List (List PL)}{c:List Dv}(v:Sl by_ b)(e:gX b c)(I:c.length<1000000){p:List Qm}(K:PQ lp p)(H:T5 p)(J:p.length<60000)
  {n:Nat} {a:List (List Qm)} {z:List Qm} (h:aR o Sq Pw XE c d n (Vu o p) (List.replicate c.length []) [] a z):
  ∃m q,Xx B 99 [.agg [y,by_,.int .i64 (.ofNat l),.bool d],.one lp] (.XZ [.one (.Xp (Xf m)),.one q,.one (.bool true)])/\Ut m a/\PQ q z:=by
 obtain⟨Q,F,D,P,G⟩:=TW s A w i K H J;have f:=e.length;have j:∀n,XF X4 (List.replicate n []) (List.replicate n []):=fun n=>by
  induction n with
  |zero=>exact .nil
  |succ n t=>exact .cons .nil t
 obtain⟨C,u,r,k,E⟩:=xT s.toStd (by_:=by_) g A w i e h D (List.replicate c.length []) [] G (j _) .nil;rw[<-f]at r;obtain⟨m,q,x,N,O⟩:=lQ s.toStd v (by omega) F P r;refine⟨m,q,x,?_,u,O,E⟩;clear x r h;induction N generalizing a with
 |nil=>cases k;exact .nil
 |cons L _ t=>cases k with |cons M k=>exact .cons ⟨_,L,M⟩ (t k)
end Go.Proofs.YtidginchkjhobaaGreat
namespace Go.Num
def PI:List Dv->List (List Qm)->List (List Qm)->List (List Qm)
 |d::ds,q::qs,acc=>PI ds qs (acc.set d.2.2.2 (Vu [] q))
 |_,_,acc=>acc
theorem jg:∀(b:List Dv) (c a:List (List Qm)),(PI b c a).length=a.length
 |[],_,_=>rfl
 |_::_,[],_=>rfl
 |d::b,q::c,a=>by rw[PI,jg];simp
end Go.Num
namespace Go.Proofs.YtidginchkjhobaaGreat
open Go.Ev Go.Num
theorem yB {B:Xs}(a:Std B):Xx B 145 [] (.one (.Xp [])):=by
 refine Xx.of (a.Wa _ _ rfl) (a.Xj.mono fun E K b=> ?_);simp(decide:=true)only[Xm,Xq,reduceIte,x145]
theorem tS:SG (.Xp []) []:=.Xp
theorem zX {E:Xa}{K k i n g:Nat}(w:E.mode=md){j rr O P:PL}{d:List (List PL)}(y:Sl j d)(X:d.length<1000000){s f:List PL}{a b c e p q:PL}{m:List Nat}(A:d[i]? =some (T8 a b c e m p q g))(B:m.length=8)(V:s[i]? =some O)(l:g<f.length)(W:f.length=n)
  (T:E.pure 145 []=some (.one (.Xp []))) (U:E.pure 140 [.one O,.one (.Xp [])]=some (.one P)) (z:Xz) (G:List Xz):
  ∃Q,Xb E K 0 [10,11,13,37,38,39] x101_1 (k+1) ⟨[(10,.one (.p (.Xp (Xf s)))),(11,.one (.p rr)),(13,.one (.own 1 0 0 n)),(37,.one (.p j)),(38,.one (.p (.int .i64 (.ofNat d.length)))),(39,.one (.p (.int .i64 (.ofNat i))))],z::qB f::G⟩=
   Xb E K 0 [10,11,13,37,38,39] x101_1 k ⟨[(10,.one (.p (.Xp (Xf s)))),(11,.one (.p rr)),(13,.one (.own 1 0 0 n)),(37,.one (.p j)),(38,.one (.p (.int .i64 (.ofNat d.length)))),(39,.one (.p (.int .i64 (.ofNat (i+1)))))],z::qB (f.set g P)::Q⟩:=by
 subst W;have v:i<d.length:=(Zb.mp A).1;have C:=fun(u:HF) (x:IntKind)=>y.idx (h:=u) (k:=x) (sz:=15) A (by simp[T8,XI,B])
 have sl:Sl (.Xp (Xf s)) (Xf s):=.Xp;have Y:=fun(u:HF) (x:IntKind)=>sl.idx (h:=u) (k:=x) (sz:=1) (XJ V) rfl
 have S:Xe .i64 (.ofNat (i+1))=.ofNat (i+1):=wrap_i64 (by omega);obtain⟨D,F,H,I,J,L,M,N,rfl⟩:=eight B;have R:mo [D,F,H,I,J,L,M,N]=[.int .i64 (.ofNat D),.int .i64 (.ofNat F),.int .i64 (.ofNat H),.int .i64 (.ofNat I),.int .i64 (.ofNat J),.int .i64 (.ofNat L),.int .i64 (.ofNat M),.int .i64 (.ofNat N)]:=rfl;simp only[T8,R,ZI,ZF]at C;obtain⟨Z,r⟩:∃o,f[g]? =some o:=⟨_,Zf l⟩;have t:=tA r;apply Exists.intro;rw[Xb];simp(decide:=true)only[Xm,Xq,Vg,Vm,reduceIte,Nat.reduceEqDiff,Nat.reduceLeDiff,Nat.reduceAdd,x101_1,w,X5,v,C,Y,S,T,U,l,t,tz,We,Wg,Zk,Zt];rfl
inductive Aq (E:Xa):List (List PL)->List PL->List PL->List PL->Prop
 |done {lqs:List PL}:Aq E [] [] lqs lqs
 |next {a b c e p q li nq:PL} {m:List Nat} {at_:Nat} {dcs:List (List PL)} {ls lqs lqs':List PL} (hm:m.length=8) (hat:at_<lqs.length) (h2:E.pure 140 [.one li,.one (.Xp [])]=some (.one nq)) (h:Aq E dcs ls (lqs.set at_ nq) lqs'):Aq E (T8 a b c e m p q at_::dcs) (li::ls) lqs lqs'
theorem th {B:Xs}(t:dJ B):∀{k:List (List PL)} {s:List Dv},gX k s->∀{m:List PL} {n:List (List Qm)},Ut m n->m.length=k.length->(∀q∈n,T5 q/\q.length<60000)->∀{j:List PL} {i:List (List Qm)},Ut j i->(∀d∈s,d.2.2.2<i.length)->
  ∃g,(X1 B fun E _=>Aq E k m j g)/\Ut g (PI s n i)
 |_,_,.nil,m,n,l,hl,_,j,i,ha,_=>by
  cases l with
  |nil=>exact⟨j,X1.of fun _ _=>.done,ha⟩
  |cons _ _=>simp at hl
 |_,_,.cons (x:=dc) (y:=d) hd h,m,n,l,hl,hs,j,i,ha,hat=>by
  cases l with
  |nil=>simp at hl
  |@cons M q m n D l=>
   obtain⟨H,I⟩:=hs q (Ze ..);obtain⟨N,w,z⟩:=TW t tS (o:=[]) (fun _ h=>by cases h) (by simp) D H I;obtain⟨g,A,C⟩:=th t h l (by simpa using hl) (fun q l=>hs q (Zc _ l)) (ha.set z d.2.2.2) (fun e F=>by rw[ZT];exact hat e (Zc _ F));have v:=ha.length;have u:=hat d (Ze ..);obtain⟨a,b,c,f,p,r,rfl,O,G,J,L⟩:=hd;exact⟨g,(w.Xj.and A).mono fun E K ⟨e1,e2⟩=>.next G.1 (by omega) e1 e2,C⟩
theorem Dh {E:Xa}{K n:Nat}(z:E.mode=md){o rr:PL}{d:List (List PL)}(D:Sl o d)(A:d.length<1000000){lsa:List PL}(S:E.pure 145 []=some (.one (.Xp [])))(r:Xz){l:List (List PL)}{C f g:List PL}(h:Aq E l C f g):∀(i k:Nat) (G:List Xz),d.drop i=l->lsa.drop i=C->i+l.length=d.length->f.length=n->l.length<k->
  ∃j t,Xb E K 0 [10,11,13,37,38,39] x101_1 k ⟨[(10,.one (.p (.Xp (Xf lsa)))),(11,.one (.p rr)),(13,.one (.own 1 0 0 n)),(37,.one (.p o)),(38,.one (.p (.int .i64 (.ofNat d.length)))),(39,.one (.p (.int .i64 (.ofNat i))))],r::qB f::G⟩=some (.exit 0,⟨j,r::qB g::t⟩)/\(Xh j 11=some (.one (.p rr))/\Xh j 13=some (.one (.own 1 0 0 n)))/\g.length=n:=by
 induction h with
 |@done f=>
  intro i k G F I x s H;obtain⟨k,rfl⟩:∃B,k=B+1:=⟨k-1,by omega⟩;have y:¬i<d.length:=by simp at x;omega
  have :∃j,Xb E K 0 [10,11,13,37,38,39] x101_1 (k+1) ⟨[(10,.one (.p (.Xp (Xf lsa)))),(11,.one (.p rr)),(13,.one (.own 1 0 0 n)),(37,.one (.p o)),(38,.one (.p (.int .i64 (.ofNat d.length)))),(39,.one (.p (.int .i64 (.ofNat i))))],r::qB f::G⟩=some (.exit 0,⟨j,r::qB f::G⟩)/\(Xh j 11=some (.one (.p rr))/\Xh j 13=some (.one (.own 1 0 0 n))):=by
   apply VE
   ·rw[Xb];simp only[Xm,Xq,reduceIte,Nat.reduceEqDiff,x101_1,y];rfl
   ·simp only[Xm,reduceIte,Nat.reduceEqDiff,and_self]
  obtain⟨j,u,v⟩:=this;exact⟨j,G,u,v,s⟩
 |@next a b c e p q W X m L l C f g U w T h V=>
  intro i k G F I x s H;obtain⟨k,rfl⟩:∃B,k=B+1:=⟨k-1,by omega⟩;simp only[Zi]at x H;obtain⟨R,N⟩:=Xi F;obtain⟨Q,M⟩:=Xi I;obtain⟨J,u⟩:=zX (K:=K) (k:=k) (n:=n) (rr:=rr) z D A R U Q w s S T r G;obtain⟨j,t,v,O,P⟩:=V (i+1) k J N M (by omega) (by rw[ZT];exact s) (by omega);exact⟨j,t,u.trans v,O,P⟩
theorem nO {B:Xs}(j:dJ B){z L lp:PL}{o:List (List Int)}(X:SG z o)(S:V3 o)(v:o.length<1000000)(hv:Xx B 50 [.one z] (.one (.bool true))){a:List PL}{c:List (List Qm)}(W:Sl L (Xf a))(s:Ut a c)(G:∀f∈c,T5 f/\f.length<60000)(hl:c.length<400000)
  {p:List Qm} (hp:PQ lp p) (J:T5 p) (m:p.length<60000) (I:(Ws o c 0).length<1000000) (F:∀d∈Ws o c 0,d.2.2.2<c.length)
  {n:Nat} {e:List (List Qm)} {A:List Qm} (h:aR o Sq Pw XE (Ws o c 0) false n (Vu o p) (List.replicate (Ws o c 0).length []) [] e A) (hq:∀q∈e,T5 q/\q.length<60000) (N:e.length=(Ws o c 0).length) (hr:T5 A) (O:A.length<60000):
  ∃x y,Xx B 101 [.one lp,.one L,.one z] (.XZ [.one (.Xp (Xf x)),.one y,.one (.int .i64 (.ofNat 0))])/\Ut x (PI (Ws o c 0) e (List.replicate c.length []))/\PQ y (Vu [] A):=by
 obtain⟨i,C,h1,r,D⟩:=Pd j X S v W s G hl;obtain⟨ls,y,h3,R,h5⟩:=PN j (by_:=i) (l:=65535) (by omega) X S v r D I hp J m h;obtain⟨P,h6,h7⟩:=TW j tS (o:=[]) (fun _ h=>by cases h) (by simp) h5 hr O;have hx:=yB j.toStd;have w:∀n,Ut (List.replicate n .XC) (List.replicate n []):=fun n=>by
  induction n with
  |zero=>exact .nil
  |succ n ih=>exact .cons ⟨[],.nil,.nil⟩ ih
 have t:=s.length;have H:=D.length;obtain⟨b,g1,g2⟩:=th j D R (by rw[R.length,N,H]) hq (w c.length) (fun d G=>by rw[Ys];exact F d G);refine⟨b,P,Xx.of (j.Wa _ _ rfl) ((g1.and (h1.Xj.and (h3.Xj.and (h6.Xj.and (hx.Xj.and (hv.Xj.and (j.toStd.Xj.and (X1.ge (C.length+1))))))))).mono fun E K ⟨e0,e1,e3,e6,Q,ev,u,hK⟩=> ?_),g2,h7⟩;obtain⟨T',G',U,⟨k2,k3⟩,V⟩:=Dh (K:=K) (n:=a.length) (rr:=y) u r (by omega) (lsa:=ls) Q ⟨false,0,4,[[.p z,.p i,.p (.int .i64 (.ofNat 65535)),.p (.bool false)]],false,135⟩ e0 0 K [] rfl rfl (by omega) (by rw[Ys,t]) (by omega);have g:=W.len;rw[Xr]at g;have k:=r.len;have M:pc (Xf (List.replicate c.length .XC))=List.replicate a.length [.p .XC]:=by simp[pc,Xf,t]
 simp only[qB,M]at U;have Y:24*a.length<=lim:=by unfold lim;omega
 have Z:a.length<=9223372036854775807:=by omega
 have T:=VA (Xf b) (Zh _);have hf:=fun h=>VK 5 h (Xf b)
 rw[Xr,V]at T;have m:(pc (Xf b)).length=a.length:=by rw[lj,V]
 simp(decide:=true)only[Xm,Xq,Vm,reduceIte,Nat.reduceAdd,Zh,x101,u,X5,g,k,e1,e3,e6,Q,ev,Y,Z,U,k2,k3,T,hf,m]
end Go.Proofs.YtidginchkjhobaaGreat
