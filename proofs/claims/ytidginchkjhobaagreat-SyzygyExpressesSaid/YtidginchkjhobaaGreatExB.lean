/- Vectors with a multiple of another one added: plain facts, and the reference's Plus and Combined. -/
import Derived.Test.YtidginchkjhobaaGreatEx
import Derived.Test.YtidginchkjhobaaGreatPlu
import Derived.Test.YtidginchkjhobaaGreatSchB
namespace Go.Ev
open Go.Proofs.YtidginchkjhobaaGreat
variable {o:M'}{w:P'}
def RY (q:I')(vs L:S'):S':=List.zipWith X8 vs (L.map (Wy [] q))
theorem nH {q}{a L}(h:a.length=L.length):(RY q a L).length=a.length:=by grind [RY]
theorem N5 {q:I'}{a L:S'}{h:Nat}{Y:I'}(e:(RY q a L)[h]? =some Y):∃Q X,a[h]? =some Q/\L[h]? =some X/\Y=X8 Q (Wy [] q X):=by
 obtain⟨Q,T,e1,e2,rfl⟩:=gK e
 grind
theorem se {q}(e:Pl q):∀A c (b:P'->Rat),(∀Q∈A,Pl Q)->(∀f∈c,Pl f)->WA (A.map (Wy [] q)) c b=XZ q fun m=>WA A c fun k=>b (Xg m k)
 |[],_,b,_,_=>by simp_all [WA,SJ]
 |a::A,[],b,_,_=>by simp_all [WA,SJ]
 |a::A,f::c,b,h,k=>by
  simp only[Zt,WA];rw[N4 e (h a (Zc ..)),se e A c b (fun Q d=>h Q (Za _ d)) (fun Q d=>k Q (Za _ d)),pS];simp only[Vj]
theorem CM {q}(h:Pl q){c L b}(e:c.length=L.length)(m:∀Q∈c,Pl Q)(g:∀Q∈L,Pl Q)(l:∀f∈b,Pl f)(i:∀a,WA c b a=0)(j:∀a,WA L b a=0)(a:P'->Rat):WA (RY q c L) b a=0:=by
 unfold RY;rw[OT (fun X d=>(m X d).q8) (fun X d=>by
  obtain⟨Y,k,rfl⟩:=ZM.1 d;exact(Rc h (g Y k)).q8) (by grind),i,se h L b a g l]
 simp only[j,SJ]
 grind
def Cm (n i:Nat)(f g:I'):S':=((List.replicate n []).set i g).set (i+1) (WE f)
theorem zr (n i)(f g):(Cm n i f g).length=n:=by unfold Cm;simp
theorem qD {n i}{f g}(a:i+1<n){h}{X}(e:(Cm n i f g)[h]? =some X):(h=i/\X=g)\/(h=i+1/\X=WE f)\/(h≠i/\h≠i+1/\X=[]):=by
 unfold Cm at e
 grind
theorem Gl {c}{i}{f g}(h:c[i]? =some f)(e:c[i+1]? =some g)(d:P'->Rat):WA (Cm c.length i f g) c d=0:=by
 have j:i+1<c.length:=(Zg.1 e).1;have e1:=Ql (qs:=List.replicate c.length ([]:I')) (q:=[]) (q2:=g) (by grind) h d;have e2:=Ql (qs:=(List.replicate c.length ([]:I')).set i g) (q:=[]) (q2:=WE f) (by grind) e d;rw[Qn]at e1;rw[T4]at e2;rw[jx (fun a b=>d (Xg a b)) g f]at e1
 grind [XZ,XL,Cm]
theorem tL (q):Wy [] q []=[]:=by
 induction q with
 |nil=>unfold Wy;rfl
 |cons t q a=>grind [Wy,X5,XD]
theorem Ec {q f}(b:Pl q)(a:Pl f):Wy [] q (WE f)=WE (Wy [] q f):=by
 have c:=Rc b (Vf a);have d:=Vf (Rc b a);refine Ph.ext c.dc d.dc fun m=> ?_
 grind [Wm,N4,Vf,T4,cq,neg_one_mul]
theorem DP {q}(s:Pl q){a}{i n}{f g v c}(r:Pl f)(l:a.length=n)(m:a[i]? =some v)(b:a[i+1]? =some c):RY q a (Cm n i f g)=(a.set i (X8 v (Wy [] q g))).set (i+1) (X8 c (WE (Wy [] q f))):=by
 have j:i+1<a.length:=(Zg.1 b).1;refine List.ext_getElem? fun h=> ?_
 unfold RY;rw[List.getElem?_zipWith,ZR];by_cases d:h<a.length
 ·have e:h<(Cm n i f g).length:=by rw[zr];omega
  have e1:=Zd e;rw[e1,Zd d];rcases qD (by omega) e1 with⟨rfl,k⟩|⟨rfl,k⟩|⟨o,p,k⟩
  ·grind
  ·grind [Ec]
  grind [tL,W6]
 grind
structure vA (o:M')(w:P')(W S:Nat)(fs:S')(q:I')(L:S'):Prop where
 len:L.length=fs.length
 pl:∀X∈L,Pl X
 ln:∀X∈L,X.length<=212
 fr:∃E,0<E/\E<=S/\∀X∈L,W8 E S X
 wt:∀(h:Nat) (X f:I') (r:Qm),L[h]? =some X->fs[h]? =some f->XB o f=some r->∀t∈q,∀v∈X,QJ w W (Xg (Xg t.2 v.2) r.2)
 z:∀φ,WA L fs φ=0
theorem VJ.plus {W S D x:Nat}{j s L:S'}(c:VJ o w W j D x s)(v:D<=x){q:I'}(k:Pl q)(O:W8 1 6 q)(V:q.length<=2)(A:vA o w W S j q L)(U:∀F,WA s j F=0)(Z:∀f∈j,Pl f):∃E,0<E/\E<=S/\VJ o w W j (D*E) (x*(212*S)) (RY q s L)/\∀F,WA (RY q s L) j F=0:=by
 obtain⟨E,e1,e2,J⟩:=A.fr;have H:s.length=L.length:=by rw[c.len,A.len]
 have d:Q8 []:=fun _ h=>by cases h
 refine⟨E,e1,e2,⟨by rw[nH H,c.len],fun Y l=> ?_,fun Y l=> ?_,fun h m R=> ?_⟩,CM k H c.pl A.pl Z U A.z⟩
 ·obtain⟨h,e⟩:=Zv.1 l;obtain⟨Q,X,g,i,rfl⟩:=N5 e;exact(c.pl Q (Zh g)).add (Rc k (A.pl X (Zh i)))
 ·obtain⟨h,e⟩:=Zv.1 l;obtain⟨Q,X,g,i,rfl⟩:=N5 e;have C:=c.pl Q (Zh g);have p:=A.pl X (Zh i);have K:W8 (D*E) (x*E) Q:=fun u n=>(c.fr Q (Zh g) u n).scale
  have M:W8 (1*E) (0+q.length*(6*S)) (Wy [] q X):=On p.q8 (J X (Zh i)) k.q8 d O (fun _ h=>by cases h);have N:W8 (D*E) ((0+q.length*(6*S))*D) (Wy [] q X):=fun u n=>by
   have:=(M u n).scale (E:=D)
   grind
  refine(W8.X8 C.q8 (Rc k p).q8 K N).mono ?_;have T:x*E<=x*S:=ZE _ e2;have h3:q.length*(6*S)<=2*(6*S):=Zm _ V;have h4:(0+q.length*(6*S))*D<=(12*S)*x:=ZA (by omega) v
  grind
 ·obtain⟨Y,f,r,u,l,G,I,n,rfl⟩:=R;obtain⟨Q,X,g,i,rfl⟩:=N5 l;have C:=c.pl Q (Zh g);have p:=A.pl X (Zh i);rcases WC _ (Zf _) C.q8 (Rc k p).q8 n with⟨t,B,e⟩|⟨t,B,e⟩
  ·rw[<-e];exact c.wt h _ ⟨Q,f,r,t,g,G,I,B,rfl⟩
  ·rw[<-e];rcases ae p.q8 k.q8 d B with⟨a,y,-⟩|⟨a,y,b,P,e2⟩
   ·cases y
   ·rw[e2];exact A.wt h X f r i G I a y b P
theorem ct {B}(f:Std B){p}{q}(l:PQ p q)(m:Sz q)(k:∀t∈q,t.1≠0)(j:q.length<=1000):∀{i d} {b L},VV i b->VV d L->b.length=L.length->(∀Q∈b,Sz Q/\Q.length<400000)->(∀X∈L,Sz X/\X.length<=212/\dH X [] q/\Sz (Wy [] q X)/\∀t∈q,∀u∈X,XA (Xg t.2 u.2))->∃e,(XT B fun E _=>Ci E p i d e)/\VV e (RY q b L)
 |[],d,[],L,.nil,h,he,_,_=>by
  cases h with
  |nil=>exact⟨[],XT.of fun _ _=>.nil,.nil⟩
  |cons _ _=>simp at he
 |s::i,ts',v::b,L',.cons hs hss,h,he,h1,h2=>by
  cases h with
  |nil=>simp at he
  |@cons t X d L c g=>
   obtain⟨e,F,G⟩:=ct f l m k j hss g (by simpa using he) (fun Q C=>h1 Q (Za _ C)) fun X D=>h2 X (Za _ D)
   obtain⟨n,O⟩:=h1 v (Zc ..);obtain⟨o,r,w,x,z⟩:=h2 X (Zc ..);have P:q.length*X.length<=1000*212:=ZA j r;obtain⟨y,I,J⟩:=Pu f l c m o (fun t c=>⟨k t c,z t c⟩) w (by omega) (by omega) (by omega);have H:=Nb q X [];rw[Zr,Yb]at H;obtain⟨a,M,N⟩:=Si f hs J n x (by omega) (by omega);exact⟨.Xl a::e,(F.and (I.Xk.and M.Xk)).mono fun E K ⟨A,e1,e2⟩=>.cons e1 e2 A,.cons ⟨a,.Xl,N⟩ G⟩
variable {w:P'}
theorem BZ {q}{a L}(b:a.length=L.length)(k):comp (RY q a L) k=X8 (comp a k) (Wy [] q (comp L k)):=by grind [RY,uQ,comp,tL]
theorem zH {B:Xq}(hB:Std B){W S D x n h:Nat}(w8:w.length=8)(wp:∀a∈w,0<a)(hW:W<=65535)(J:(allM w W).length<=300)(V:0<D)(p:D<=x)(hS:1<=S)(N:h<=1200000000000)(hn:n<100000):∀{cs:N'} {g:S'} {ls:Z'} {F:List S'},VV cs g->XE VV ls F->g.length=F.length->
  (∀y∈g,W8 D x y/\(∀u∈y,QJ w W u.2)/\Pl y)->(∀L∈F,L.length=n/\(∀X∈L,Pl X/\X.length<=212)/\∃E,0<E/\E<=S/\∀X∈L,W8 E S X)->(∀(j:Nat) (y:I') (L:S'),g[j]? =some y->F[j]? =some L->∀X∈L,∀u∈y,∀v∈X,QJ w W (Xg u.2 v.2))->
  ∀{v P X:Nat} {f:N'} {o:S'},VV f o->o.length=n->0<P->P<=X->2*(x*(X*(301*S)^g.length))<=32^h->(∀Q∈o,W8 (D*P) (x*X) Q/\(∀u∈Q,QJ w W u.2)/\Pl Q)->
  ∃q Os,(XT B fun E _=>vy E n v cs ls f q)/\VV q Os/\Os.length=n/\(∀k φ,XZ (comp Os k) φ=XZ (comp o k) φ+FC g F k φ)/\∀Q∈Os,Pl Q
 |[],[],ls,F,.nil,O,he,_,_,_,v,P,X,f,o,hc,M,_,_,_,hA=>by
  cases O with
  |cons _ _=>simp at he
  |nil=>exact⟨f,o,XT.of fun _ _=>.nil v f,hc,M,fun k φ=>by grind [FC,WA],fun Q G=>(hA Q G).2.2⟩
 |c::cs,y::g,ls',Ls',.cons hcy hcs,O,he,h1,h2,h3,v,P,X,f,o,hc,M,hP,hPX,hx,hA=>by
  cases O with
  |nil=>simp at he
  |@cons t L ls F ht a4=>
   obtain⟨y1,y2,r⟩:=h1 y (Zc ..);obtain⟨l1,U,E,e1,e2,e3⟩:=h2 L (Zc ..);have O:o.length=L.length:=by omega
   have a7:=h3 0 y L rfl rfl;have yn:y.length<=300:=Zy (O7 w8 wp r y2) J;have m:Q8 []:=fun _ h=>by cases h
   have a5:1<=x:=by omega
   have a1:1<=X:=by omega
   have hM:1<=(301*S)^g.length:=Yr (by omega);have hs:X*(301*S)^(g.length+1)=X*(301*S)*(301*S)^g.length:=by grind
   rw[Zj,hs]at hx;have b0:X*(301*S)<=X*(301*S)*(301*S)^g.length:=Z1 _ hM;have b1:x*(X*(301*S))<=x*(X*(301*S)*(301*S)^g.length):=ZE _ b0;have b2:x*(X*(301*S))=301*(x*(X*S)):=by grind
   have b3:x*S<=x*(X*S):=ZE _ (Yz _ a1);have b4:x<=x*S:=Z1 _ hS;have b5:S<=x*S:=Yz _ a5;have b6:x*X<=x*(X*S):=ZE _ (Z1 _ hS);have a8:D*E<=x*S:=ZA p e2;have a0:D*P<=x*X:=ZA p hPX;have b7:y.length*(x*S)<=300*(x*S):=Zm _ yn;have fm:∀Z∈L,W8 (D*E) (300*(x*S)) (Wy [] y Z):=fun Z d=>(On (c:=0) (U Z d).1.q8 (e3 Z d) r.q8 m y1 (fun _ h=>by cases h)).mono (by omega)
   obtain⟨zs,k1,k2⟩:=ct hB hcy (y1.RA (h:=h) V p (by omega) N) r.Sk.nz (by omega) hc ht O (fun Q G=>by
    obtain⟨q1,q2,Y⟩:=hA Q G;exact⟨q1.RA (h:=h) (ZV V hP) a0 (by omega) N,by have:=Zy (O7 w8 wp Y q2) J;omega⟩) (fun Z d=>by
    obtain⟨z1,z2⟩:=U Z d;exact⟨(e3 Z d).RA (h:=h) e1 e2 (by omega) N,z2,qh (c:=0) (C:=300*(x*S)) z1.q8 (e3 Z d) (fun{c' l} a2 hf=>(hf.mono a2).RA (h:=h) (ZV V e1) (by omega) (by omega) N) r.q8 m y1 (fun _ h=>by cases h) (by omega),(fm Z d).RA (h:=h) (ZV V e1) (by omega) (by omega) N,fun t ht u I=>(a7 Z d t ht u I).ok w8 wp hW⟩)
   have R:(RY y o L).length=n:=by grind [nH]
   have a6:zs.length=n:=by rw[k2.length];exact R
   have a3:f.length=n:=by rw[hc.length];exact M
   have a9:t.length=n:=by rw[ht.length];exact l1
   obtain⟨q,Os,m1,m2,m3,m4,m5⟩:=zH hB w8 wp hW J V p hS N hn (v:=n) (P:=P*E) (X:=X*(301*S)) hcs a4 (by simpa using he) (fun z R=>h1 z (Za _ R)) (fun Z d=>h2 Z (Za _ d)) (fun j z Z R d=>h3 (j+1) z Z R d) k2 R (ZV hP e1) (Zy (ZA hPX e2) (ZE _ (by omega))) hx (fun Q G=>by
    obtain⟨k,e⟩:=Zv.1 G;obtain⟨A,Z,g1,g2,rfl⟩:=N5 e;have d:=Zh g2;obtain⟨q1,q2,Y⟩:=hA A (Zh g1);have pm:=Rc r (U Z d).1;refine⟨?_,fun u I=> ?_,Y.add pm⟩
    ·have f1:W8 (D*(P*E)) (x*X*E) A:=fun u I=>by
      have:=(q1 u I).scale (E:=E)
      grind [Yn]
     have f2:W8 (D*(P*E)) (300*(x*S)*P) (Wy [] y Z):=fun u I=>by
      have:=(fm Z d u I).scale (E:=P)
      grind [Yn,ZT]
     refine(W8.X8 Y.q8 pm.q8 f1 f2).mono ?_;have c1:x*X*E<=x*(X*S):=by simp_all [Yn,ZE]
     have c2:300*(x*S)*P<=300*(x*S)*X:=ZE _ hPX
     grind
    ·rcases WC _ (Zf _) Y.q8 pm.q8 I with⟨s,hs,e⟩|⟨s,hs,e⟩
     ·grind
     ·rw[<-e];rcases ae (U Z d).1.q8 r.q8 m hs with⟨a,M,-⟩|⟨a,M,b,hb,e2⟩
      ·cases M
      grind)
   have key:=aX hB (P:=c) (ss:=f) (ts:=t) (zs:=zs) (v:=v) (T:=.Xl (Xf t)) .Xl (by omega) k1;refine⟨q,Os,(m1.and key).mono fun E K ⟨e1,e2⟩=>.cons a3 a6 (fun H i hb=>e2 H i hb) e1,m2,m3,fun k φ=> ?_,m5⟩;rw[m4,BZ O,VG _ _ _ _ (Zf _) (dt (fun Q G=>(hA Q G).2.2) k).q8 (Rc r (dt (fun Z d=>(U Z d).1) k)).q8,N4 r (dt (fun Z d=>(U Z d).1) k)]
   grind [FC,WA]
theorem IM {a Bs}(f:a.length=Bs.length)(d:∀Q∈a,Pl Q)(e:∀Q∈Bs,Pl Q)(h:∀k c,XZ (comp a k) c=XZ (comp Bs k) c):a=Bs:=by
 refine List.ext_getElem? fun k=> ?_
 by_cases b:k<a.length
 ·have e1:=Zd b;have e2:=Zd (l:=Bs) (i:=k) (by omega);rw[e1,e2];congr 1;refine Ph.ext (d _ (Ya b)).dc (e _ (Ya _)).dc fun m=> ?_
  rw[Wm,Wm,<-fB e1,<-fB e2];exact h k _
 grind
variable {o:M'}{w:P'}
abbrev F3 (z:N')(i:Nat)(a b:PL):N':=(z.set i a).set (i+1) b
structure L4 (E:Xa)(lo M:PL)(os:N')(xss:Z')(P0 P1 P2:PL)(a0 a1 i:Nat):Prop where
 ex:∃t0 t1 z1 z2 g g' s s' y y' z z' cs out,xss[a0]? =some t0/\xss[a1]? =some t1/\z1.length=os.length/\z2.length=os.length/\L6 E P0 (.Xl (Xf t0)) 0 (List.replicate os.length .Xp) z1/\L6 E P1 (.Xl (Xf t1)) os.length z1 z2/\os[i]? =some g/\os[i+1]? =some g'/\z2[i]? =some s/\z2[i+1]? =some s'/\
  E.pure 11 [.one P2,.one g']=some (.one y)/\E.pure 10 [.one s,.one y]=some (.one z)/\E.pure 11 [.one P2,.one g]=some (.one y')/\E.pure 12 [.one s',.one y']=some (.one z')/\
  E.pure 25 [.one (.Xl (Xf (F3 z2 i z z'))),.one (.Xl (Xf os)),.one lo]=some (.Wd [.one (.Xl (Xf cs)),.one (La0 0)])/\cs.length=xss.length/\E.pure 28 [.one (.Xl (Xf cs))]=some (.one (.bool true))/\
  E.pure 29 [.one (.Xl (Xf cs)),.one M,.one (La0 os.length)]=some (.one (.Xl (Xf out)))/\E.pure 21 [.one (.Xl (Xf out)),.one (.Xl (Xf (F3 z2 i z z')))]=some (.one (.bool true))
structure Mv (S g:Nat):Prop where
 s1:1<=S
 h1:212*S<=32^g
 h2:301*S<=32^g
 hg:g<=64900000
theorem Mv.le {S g}(P:Mv S g)(a b H)(d:g*(a+b)+1<=H):2*((212*S)^a*(301*S)^b)<=32^H:=by
 have e1:(212*S)^a<=(32^g)^a:=Nat.pow_le_pow_left P.h1 a;have e2:(301*S)^b<=(32^g)^b:=Nat.pow_le_pow_left P.h2 b;have c:=ZA e1 e2;rw[<-Nat.pow_mul,<-Nat.pow_mul,<-Ye,<-Nat.mul_add]at c;have e:(32:Nat)^(g*(a+b)+1)<=32^H:=Z5 (by decide) d;omega
structure QX (w:P')(e:Nat)(q:I'):Prop where
 pl:Pl q
 fr:W8 1 6 q
 ln:q.length<=2
 wt:∀t∈q,L8 t.2/\Wu w t.2<=e
theorem QX.of {j h e}(X:ID w j h e){q}(k:G2 1 6 2 q):QX w e q:=by
 obtain⟨c,g⟩:=k;refine⟨c.pl,(fun t d=>by obtain⟨z,m,l⟩:=c.cf t d;exact⟨z,by grind,l⟩),c.len,fun t d=>⟨c.pl.q8 t d,?_⟩⟩;obtain⟨a,b,e1,f⟩:=g t d;have i:t.2=VH a b:=e1;rw[i];exact X.q a b f
theorem zS {S b e W i j}{a}{q}(Q:QX w e q)(y:∀f∈a,∀r,XB o f=some r->L8 r.2/\Wu w r.2<=b)(B:2*b+e<=W){L}(A:KB o w a S i j L):vA o w W S a q L:=by
 obtain⟨f,g,s,t,m,n,p,x,K⟩:=A;refine⟨K.len,K.pl,K.ln,K.fr,fun h X d r e1 e2 c u k v l=> ?_,K.z⟩;obtain⟨⟨C,D⟩,-⟩:=K.mem h X d r e1 e2 c v l;obtain⟨E,F⟩:=Q.wt u k
 grind [oX,Vj,Wo,Wr]
theorem Kj {S n e W i}{a}{q}(Q:QX w e q)(y:∀f∈a,∀r,XB o f=some r->L8 r.2/\Wu w r.2<=n/\∀u∈f,Wu w u.2<=Wu w r.2)(j:∀f∈a,∃r,XB o f=some r)(T:2*n+e<=W)(m:∀f∈a,Pl f)(L:∀f∈a,f.length<=212)(C:∃E,0<E/\E<=S/\∀f∈a,W8 E S f){f g}(z:a[i]? =some f)(d:a[i+1]? =some g):vA o w W S a q (Cm a.length i f g):=by
 have H:i+1<a.length:=(Zg.1 d).1;have t:=Zh z;have c:=Zh d;have b:∀{P:I'->Prop},P g->P (WE f)->P []->∀X∈Cm a.length i f g,P X:=fun{P} N O R X G=>by
  obtain⟨h,e⟩:=Zv.1 G
  grind [qD]
 obtain⟨E,A,B,c3⟩:=C;refine⟨zr ..,b (m g c) (Vf (m f t)) Pl.nil,b (L g c) (by grind [Ea]) (by simp),⟨E,A,B,b (c3 g c) (c3 f t).WE fun _ h=>by cases h⟩,fun h X F r e1 e2 D u J v l=> ?_,Gl z d⟩;obtain⟨u8,uw⟩:=Q.wt u J;obtain⟨Y,U,V⟩:=y F (Zh e2) r D;have key:∀p∈a,v.2∈p.map Prod.snd->QJ w W (Xg (Xg u.2 v.2) r.2):=fun p k l=>by
  obtain⟨x,K,M⟩:=ZM.1 l;obtain⟨s,I⟩:=j p k;obtain⟨s8,Z,s2⟩:=y p k s I;have x8:=(m p k).q8 x K
  grind [Wo,Wr]
 rcases qD H e1 with⟨-,rfl⟩|⟨-,rfl⟩|⟨-,-,rfl⟩
 ·grind
 ·grind [RF]
 ·cases l
theorem VJ.zero (b)(W):VJ o w W b 1 1 (List.replicate b.length []):=by
 have key:∀Q∈List.replicate b.length ([]:I'),Q=[]:=fun Q a=>(Yt.1 a).2
 refine⟨by simp,fun Q a=> ?_,fun Q a=> ?_,fun h m c=> ?_⟩
 ·grind [Pl.nil]
 ·rw[key Q a];exact fun _ h=>by cases h
 ·obtain⟨Q,f,r,u,d,-,-,e,-⟩:=c
  grind
variable {o:M'}{w:P'}
theorem dA {S g e}{q X}(Q:QX w e q)(P:Mv S g){E}(hE:0<E)(d:E<=S)(b:W8 E S X)(i:Pl X):Sz q/\Sz X/\dH X [] q/\Sz (Wy [] q X):=by
 have o:=P.hg;have n:=P.h1;have r:=P.s1;have a:Q8 []:=fun _ h=>by cases h
 have p:q.length*(6*S)<=2*(6*S):=Zm _ Q.ln;have j:W8 (1*E) (12*S) (Wy [] q X):=(On (c:=0) i.q8 b Q.pl.q8 a Q.fr (fun _ h=>by cases h)).mono (by omega);exact⟨Q.fr.RA (h:=g) (by omega) (by omega) (by omega) (by omega),b.RA (h:=g) hE d (by omega) (by omega),qh (c:=0) (C:=12*S) i.q8 b (fun{m l} f k=>(k.mono f).RA (h:=g) (by omega) (by omega) (by omega) (by omega)) Q.pl.q8 a Q.fr (fun _ h=>by cases h) (by omega),j.RA (h:=g) (by omega) (by omega) (by omega) (by omega)⟩
theorem vA.mo {W S}{a}{q}{L}(A:vA o w W S a q L)(n:Pl q)(b:∀f∈a,∃r,XB o f=some r/\L8 r.2)(y:w.length=8)(z:∀x∈w,0<x)(k:W<=65535):∀X∈L,∀t∈q,∀u∈X,XA (Xg t.2 u.2):=fun X c t g u i=>by
 obtain⟨h,e⟩:=Zv.1 c;have d:h<a.length:=by rw[<-A.len];grind
 obtain⟨r,l,p⟩:=b _ (Ya d);obtain⟨B,m⟩:=A.wt h X _ r e (Zd d) l t g u i;have s:=n.q8 t g;have v:=(A.pl X c).q8 u i;have j:=Wo s v;rw[Wr w (j.trans p.symm)]at m;exact QJ.ok (w:=w) (W:=W) ⟨j,by omega⟩ y z k
theorem VJ.MH {W D x h}{c k}(V:VJ o w W c D x k)(l:0<D)(d:D<=x)(n:2*x<=32^h)(b:h<=1200000000000)(g:∀f∈c,∃r,XB o f=some r/\L8 r.2)(p:w.length=8)(q:∀x∈w,0<x)(i:(allM w W).length<=210):∀Q∈k,Sz Q/\Q.length<=210:=fun Q a=>by
 refine⟨(V.fr Q a).RA l d n b,?_⟩;obtain⟨h,e⟩:=Zv.1 a;have b:h<c.length:=by rw[<-V.len];grind
 obtain⟨r,m,v⟩:=g _ (Ya b);refine Zy (O7 p q (V.pl Q a) fun u j=> ?_) i;have y:=(V.pl Q a).q8 u j;obtain⟨s,t⟩:=V.wt h _ ⟨Q,_,r,u,e,Zd b,m,j,rfl⟩
 grind [Wr]
theorem FJ {c d:Type}{R:c->d->Prop}{a}{b}(h:XE R a b):∀x∈a,∃y∈b,R x y:=by
 induction h with
 |nil=>grind
 |cons e _ f=>
  grind
theorem MR (T R):1*T*T*T*T^R=T^(R+3):=by grind
theorem Et {B:Xq}(hS:q7 B)(hB:mL B){ms:List (Nat×Nat)}{hm n Vm e:Nat}(GP:vu o ms w hm n Vm)(X:ID w hm Vm e)(o8:Vq o)(ol:o.length<1000000){lo:PL}(so:SA lo o)(hv:Xv B 50 [.one lo] (.one (.bool true))){os:N'}{d:S'}(a3:VV os d)(I:M9 o w hm Vm d){P0 P1 P2:PL}{q0 q1 q2:I'}(p0:PQ P0 q0)(p1:PQ P1 q1)(p2:PQ P2 q2)(g0:G2 1 6 2 q0)(g1:G2 1 6 2 q1)(g2:G2 1 6 2 q2):
  ∃M z,Sl M (Xf (gF z))/\Xv B 19 [.one (.Xl (Xf os)),.one lo] (.Wd [.one M,.one (La0 0)])/\2*z.length=os.length*(os.length-1)/\Xv B 26 [.one M,.one (La0 os.length)] (.one (.bool true))/\
   ∀a0 a1 i,a0<z.length->a1<z.length->i+1<os.length->XT B fun E _=>L4 E lo M os z P0 P1 P2 a0 a1 i:=by
 have U:=hS.toStd;have xm:=X.hm;have xV:=X.V;have x6:=X.e6;have il:=I.ln;have w8:=GP.g.w8;have wp:=GP.g.wp;have d6:=a3.length;have H0:=Kd GP X o8 ol I (G2.nil 1 6 2) (c:=0) (by decide);have h0:KG (LR d []) 0=d:=by cases d<;>simp[LR,KG]
 rw[h0]at H0;obtain⟨h,hh⟩:∃h,h=101*hm+3:=⟨_,rfl⟩;rw[<-hh]at H0;obtain⟨M,z,Ls,sM,r1,k2,k3,k4,k5⟩:=H0.MJ hB so hv .Xl a3;obtain⟨S,eS⟩:∃S,S=32^(214*h+3):=⟨_,rfl⟩;rw[<-eS]at k4 k5;obtain⟨g,eg⟩:∃g,g=214*h+5:=⟨_,rfl⟩;have PS:Mv S g:=by
  have h1:(32:Nat)^(214*h+5)=32^(214*h+3)*32^2:=Ye _ (214*h+3) 2;have h2:(32:Nat)^2=1024:=by decide
  rw[h2]at h1;refine⟨by rw[eS];exact Yr (by decide),?_,?_,by omega⟩<;>(rw[eg,h1,eS];omega)
 have s1:=PS.s1;have hg:=PS.hg;have l9:=k2.length;have i7:z.length<=780:=by
  have :d.length*(d.length-1)<=40*39:=ZA il (by omega);omega
 have Z:(allM w (2*(Vm+e))).length<=210:=X.num _ (Zf _);obtain⟨W,eW⟩:∃W,W=2*(Vm+e):=⟨_,rfl⟩;rw[<-eW]at Z;have A:=H0.DQ;have c9:∀f∈d,∃r,XB o f=some r/\r.1=1/\L8 r.2/\Wu w r.2<=Vm/\∀u∈f,Wu w u.2<=Wu w r.2:=fun f J=>by
  obtain⟨m,C,F,f1,f2,f3,f4,f5⟩:=I.el f J;exact⟨_,F.ld,rfl,F.m8,f5,f4⟩
 have a4:∀f∈d,∃r,XB o f=some r/\L8 r.2:=fun f J=>by
  grind
 have hV:∀f∈d,∀r,XB o f=some r->L8 r.2/\Wu w r.2<=Vm/\∀u∈f,Wu w u.2<=Wu w r.2:=fun f J r hr=>by
  grind
 have cd:∃E,0<E/\E<=S/\∀f∈d,W8 E S f:=by
  obtain⟨E,N,c1,c2,c3,c4⟩:=qQ H0.el;have :h*d.length<=h*40:=ZE _ il;have hp:(32:Nat)^(h*d.length+1)<=32^(214*h+3):=Z5 (by decide) (by omega);rw[<-eS]at hp;exact⟨E,c1,by omega,fun f J=>(c4 f J).mono (by omega)⟩
 have b7:∀L∈Ls,L.length=d.length/\(∀Y∈L,Pl Y/\Y.length<=212)/\∃E,0<E/\E<=S/\∀Y∈L,W8 E S Y:=fun L hL=>by
  obtain⟨a,b,f,g,s,t,-,-,-,-,K⟩:=k5 L hL;exact⟨K.len,fun Y O=>⟨K.pl Y O,K.ln Y O⟩,K.fr⟩
 have l6:Xv B 26 [.one M,.one (La0 os.length)] (.one (.bool true)):=vV U sM (by omega) fun p hp=>by
  obtain⟨L,hL,pL⟩:=FJ k2 p hp;obtain⟨l1,l2,E,l3,l4,l5⟩:=b7 L hL;have:=pL.length;refine⟨by omega,iF U .Xl (by omega) pL fun f J=>⟨(l5 f J).RA (h:=g) l3 l4 (by have:=PS.h1;omega) (by omega),(l2 f J).1.dc,by grind⟩⟩
 refine⟨M,z,sM,r1,by rw[d6,l9];exact k3,l6,fun a0 a1 i m7 m9 hi=> ?_⟩;have Q0:=QX.of X g0;have Q1:=QX.of X g1;have Q2:=QX.of X g2;have c7:=Zd (l:=Ls) (i:=a0) (by omega);have c8:=Zd (l:=Ls) (i:=a1) (by omega);generalize Ls[a0]'(by omega)=L0 at c7;generalize Ls[a1]'(by omega)=L1 at c8;obtain⟨t0,i2,j4⟩:=k2.get a0 L0 c7;obtain⟨t1,i3,j5⟩:=k2.get a1 L1 c8;have ef:=Zd (l:=d) (i:=i) (by omega);have a6:=Zd (l:=d) (i:=i+1) (by omega);generalize d[i]'(by omega)=f at ef;generalize d[i+1]'(by omega)=f' at a6;obtain⟨gp,i0,j1⟩:=a3.get ef;obtain⟨g7,d5,e9⟩:=a3.get a6;have fm:=Zh ef;have a9:=Zh a6;have d4:∀f∈d,∀r,XB o f=some r->L8 r.2/\Wu w r.2<=Vm:=fun f J r hr=>⟨(hV f J r hr).1,(hV f J r hr).2.1⟩
 have A0:vA o w W S d q0 L0:=by
  obtain⟨a,b,K⟩:=k5 L0 (Zh c7);exact zS Q0 d4 (by omega) K
 have A1:vA o w W S d q1 L1:=by
  obtain⟨a,b,K⟩:=k5 L1 (Zh c8);exact zS Q1 d4 (by omega) K
 have A2:vA o w W S d q2 (Cm d.length i f f'):=Kj Q2 hV (fun f J=>by grind) (by omega) A (fun f J=>by have:=(H0.el f J).ln;omega) cd ef a6;obtain⟨E0,m0,m3,V1,z1⟩:=(VJ.zero (o:=o) (w:=w) d W).plus (Zf _) Q0.pl Q0.fr Q0.ln A0 (Qn _ _) A;have d1:0<1*E0:=by omega
 have b9:1*E0<=1*(212*S):=by omega
 obtain⟨E1,g4,m4,V2,z2⟩:=V1.plus b9 Q1.pl Q1.fr Q1.ln A1 z1 A;have d2:0<1*E0*E1:=ZV d1 g4;have c5:1*E0*E1<=1*(212*S)*(212*S):=ZA b9 (by omega);obtain⟨E2,g5,m5,V3,z3⟩:=V2.plus c5 Q2.pl Q2.fr Q2.ln A2 z2 A;have d3:0<1*E0*E1*E2:=ZV d2 g5;have c6:1*E0*E1*E2<=1*(212*S)*(212*S)*(212*S):=ZA c5 (by omega);generalize i4:RY q0 (List.replicate d.length []) L0=vs1 at V1 z1 V2 z2 V3 z3;generalize i5:RY q1 vs1 L1=vs2 at V2 z2 V3 z3;generalize i6:RY q2 vs2 (Cm d.length i f f')=vs3 at V3 z3;generalize 1*E0*E1*E2=D3 at *;generalize 1*E0*E1=D2 at *;generalize 1*E0=D1 at *;have b1:=PS.le 1 0 (g*8500) (by omega);have b2:=PS.le 2 0 (g*8500) (by omega);have b3:=PS.le 3 0 (g*8500) (by omega);have e8:=MR (212*S) 0;rw[Nat.pow_zero,Z6]at e8;have j0:1*(212*S)*(212*S)=(212*S)^2:=by grind
 rw[Nat.pow_zero,Z6,Nat.pow_one]at b1;rw[Nat.pow_zero,Z6,<-j0]at b2;rw[Nat.pow_zero,Z6,<-e8]at b3;have f9:=V1.MH d1 b9 (h:=g*8500) (by omega) (by omega) a4 w8 wp Z;have b8:=V2.MH d2 c5 b2 (by omega) a4 w8 wp Z;have g3:=V3.MH d3 c6 b3 (by omega) a4 w8 wp Z;have c0:∀Y∈L0,Sz q0/\Sz Y/\dH Y [] q0/\Sz (Wy [] q0 Y):=fun Y O=>by
  obtain⟨E,x1,x2,x3⟩:=A0.fr
  grind [dA]
 have c1:∀Y∈L1,Sz q1/\Sz Y/\dH Y [] q1/\Sz (Wy [] q1 Y):=fun Y O=>by
  obtain⟨E,x1,x2,x3⟩:=A1.fr
  grind [dA]
 have f8:∀{q:I'},QX w e q->Sz q:=fun Q=>Q.fr.RA (h:=1) (by omega) (by omega) (by decide) (by omega)
 obtain⟨y1,r2,d0⟩:=ct U p0 (f8 Q0) Q0.pl.Sk.nz (by have:=Q0.ln;omega) (OX d.length) j4 (by grind) (fun Q hQ=>by grind [Sz.nil]) fun Y O=>⟨(c0 Y O).2.1,A0.ln Y O,(c0 Y O).2.2.1,(c0 Y O).2.2.2,A0.mo Q0.pl a4 w8 wp (by omega) Y O⟩
 rw[i4]at d0;have e3:y1.length=d.length:=by rw[d0.length];exact V1.len
 obtain⟨y2,r3,a5⟩:=ct U p1 (f8 Q1) Q1.pl.Sk.nz (by have:=Q1.ln;omega) d0 j5 (by rw[V1.len,A1.len]) (fun Q hQ=>⟨(f9 Q hQ).1,by grind⟩) fun Y O=>⟨(c1 Y O).2.1,A1.ln Y O,(c1 Y O).2.2.1,(c1 Y O).2.2.2,A1.mo Q1.pl a4 w8 wp (by omega) Y O⟩
 rw[i5]at a5;have e4:y2.length=d.length:=by rw[a5.length];exact V2.len
 have F1:=aX U (P:=P0) (ss:=List.replicate d.length .Xp) (ts:=t0) (zs:=y1) (v:=0) (T:=.Xl (Xf t0)) .Xl (by grind) r2;have F2:=aX U (P:=P1) (ss:=y1) (ts:=t1) (zs:=y2) (v:=d.length) (T:=.Xl (Xf t1)) .Xl (by omega) r3;have ev:=Zd (l:=vs2) (i:=i) (by have:=V2.len;omega);have a8:=Zd (l:=vs2) (i:=i+1) (by have:=V2.len;omega);generalize vs2[i]'(by have:=V2.len;omega)=v at ev;generalize vs2[i+1]'(by have:=V2.len;omega)=v' at a8;obtain⟨sp,i1,j3⟩:=a5.get ev;obtain⟨l7,d8,f0⟩:=a5.get a8;obtain⟨E,x1,x2,x3⟩:=cd;have a7:=dA Q2 PS x1 x2 (x3 f fm) (A f fm);have a2:=dA Q2 PS x1 x2 (x3 f' a9) (A f' a9);have lf:=(H0.el f fm).ln;have i9:=(H0.el f' a9).ln;have VH:∀p∈d,∀t∈q2,∀u∈p,XA (Xg t.2 u.2):=fun p hp t ht u hu=>by
  obtain⟨t8,tw⟩:=Q2.wt t ht;obtain⟨r,hr,-,r8,l0,f7⟩:=c9 p hp;have u8:=(A p hp).q8 u hu;have:=f7 u hu;refine QJ.ok (w:=w) (W:=W) ⟨Wo t8 u8,?_⟩ w8 wp (by omega)
  grind [Wr]
 have e0:=Q2.ln;have m1:q2.length*f.length<=2*200:=ZA e0 lf;have m2:q2.length*f'.length<=2*200:=ZA e0 i9;obtain⟨ya,r4,j6⟩:=Pu U p2 e9 a2.1 a2.2.1 (fun t ht=>⟨Q2.pl.Sk.nz t ht,VH f' a9 t ht⟩) a2.2.2.1 (by omega) (by omega) (by omega);obtain⟨yb,r5,j7⟩:=Pu U p2 j1 a7.1 a7.2.1 (fun t ht=>⟨Q2.pl.Sk.nz t ht,VH f fm t ht⟩) a7.2.2.1 (by omega) (by omega) (by omega);have la:=Nb q2 f' [];have lb:=Nb q2 f [];rw[Zr,Yb]at la lb;obtain⟨sv,lv⟩:=b8 v (Zh ev);obtain⟨l8,n0⟩:=b8 v' (Zh a8);obtain⟨za,r6,j8⟩:=Si U j3 j6 sv a2.2.2.2 (by omega) (by omega);obtain⟨zb,r7,j9⟩:=Qf U f0 j7 l8 a7.2.2.2 (by omega) (by omega);have b0:VV (F3 y2 i (.Xl za) (.Xl zb)) vs3:=by
  rw[<-i6,DP Q2.pl (A f fm) V2.len ev a8];exact(a5.set ⟨za,.Xl,j8⟩ i).set ⟨zb,.Xl,j9⟩ (i+1)
 generalize d7:F3 y2 i (.Xl za) (.Xl zb)=s4 at b0;have g9:=H0.isX hS (W:=W) (G:=.Xl (Xf os)) (X:=.Xl (Xf s4)) .Xl a3 .Xl b0 V3.len V3.pl (fun Q hQ=>by grind) d3 c6 b3 (by omega) V3.fr (fun j Y p e1 e2 u hu x hx=>by
  obtain⟨r,hr,-,r8,l0,f7⟩:=c9 p (Zh e2);have u8:=(V3.pl Y (Zh e1)).q8 u hu;have x8:=(A p (Zh e2)).q8 x hx;obtain⟨k1,k2⟩:=V3.wt j _ ⟨Y,p,r,u,e1,e2,hr,hu,rfl⟩
  grind [Wr,Wo]) (by omega) Z z3
 have ll:(TQ o (allM w W)).length<=210:=Zy (Pn _) Z;obtain⟨R,eR⟩:∃R,R=(TQ o (allM w W)).length*d.length+1:=⟨_,rfl⟩;have hR:R<=8401:=by
  have:=ZA ll il;omega
 have b4:=PS.le (R+3) 0 (g*8500) (by
  have :g*(R+3+0)<=g*8404:=ZE _ (by omega);omega)
 rw[Nat.pow_zero,Z6]at b4;obtain⟨k,k7,k8⟩:=yE (h:=g*8500) (by omega);have m6:1<=(212*S)^(R+3):=Yr (by omega);have XC:L7 B o w W S lo (.Xl (Xf os)) os d z Ls k ((212*S)^(R+3)):=⟨hS,o8,ol,w8,wp,so,A,fun f J=>(H0.el f J).ln,fun f J=>by obtain⟨r,a,b,-⟩:=c9 f J;exact⟨r,a,b⟩,by omega,by omega,by omega,.Xl,a3,k2,k4,s1,k7,by omega⟩;obtain⟨cs,ys,F⟩:=uI XC (TQ o (allM w W)) (jW w8 wp W) d3 c6 (by grind) (V:=.Xl (Xf s4)) .Xl b0 V3 z3 (CJ.zero z.length) (by simp) fun j m hp=>by
  have hi:=V3.wt j m hp
  simp_all [WU,To]
 obtain⟨r,hr⟩:=F.run;obtain⟨D,x,f1,f2,f3,CJ⟩:=F.cj;have d9:cs.length=z.length:=by
  obtain⟨N,e⟩:=hr;have:=(e N N (Zf _) (Zf _)).len
  grind
 have n1:=CJ.pq.length;have k0:=xB U (S:=.Xl (Xf s4)) (G:=.Xl (Xf os)) (lo:=lo) (vs:=s4) (cs':=cs) .Xl sM (by simp;omega) r1 g9 (by rw[ZP];exact hr);have i8:2*x<=32^(g*8500):=by omega
 have e5:∀y∈ys,y.length<=210:=fun y hy=>Zy (O7 w8 wp (CJ.fr y hy).2.2 (CJ.fr y hy).2.1) Z
 have k9:=iF U (L:=.Xl (Xf cs)) .Xl (by omega) CJ.pq fun y hy=>⟨(CJ.fr y hy).1.RA (h:=g*8500) f1 f2 i8 (by omega),(CJ.fr y hy).2.2.dc,by have:=e5 y hy;omega⟩
 have b5:=PS.le (R+3) ys.length (g*9300) (by
  have :g*(R+3+ys.length)<=g*9184:=ZE _ (by omega);omega)
 have b6:x*(1*(301*S)^ys.length)<=(212*S)^(R+3)*(301*S)^ys.length:=by
  simp_all [Zm]
 obtain⟨e7,Os,r8,pO,lO,eO,j2⟩:=zH U w8 wp (by omega) (by omega) f1 f2 s1 (h:=g*9300) (n:=d.length) (by omega) (by omega) CJ.pq k2 (by omega) CJ.fr b7 CJ.wt (v:=0) (P:=1) (X:=1) (OX d.length) (by simp) (by omega) (Zf _) (by omega) fun Q hQ=>by
  rw[(Yt.1 hQ).2];exact⟨fun _ h=>(by cases h),fun _ h=>(by cases h),Pl.nil⟩
 have f6:=qP U (C:=.Xl (Xf cs)) .Xl sM d9 (by omega) (by omega) r8;have g6:Os=vs3:=IM (by rw[lO,V3.len]) j2 V3.pl fun j φ=>by
  rw[eO,F.rel,FB,oC fun v hv=>(Yt.1 hv).2]
  grind
 rw[g6]at pO;have k6:=Db U (la:=.Xl (Xf e7)) (lb:=.Xl (Xf s4)) .Xl .Xl pO b0 (fun Q hQ=>⟨(g3 Q hQ).1,by grind⟩) (by have:=V3.len;omega);rw[<-d6]at F1 F2 f6 e3 e4;refine(F1.and (F2.and (r4.Xk.and (r6.Xk.and (r5.Xk.and (r7.Xk.and (k0.Xk.and (k9.Xk.and (f6.Xk.and k6.Xk))))))))).mono fun E K ⟨h1,h2,h3,h4,h5,h6,h7,h8,h9,g8⟩=>⟨t0,t1,y1,y2,gp,g7,sp,l7,ya,yb,.Xl za,.Xl zb,cs,e7,i2,i3,e3,e4,?_,?_,i0,d5,i1,d8,h3,h4,h5,h6,?_,d9,h8,h9,?_⟩
 ·exact fun H j hb=>by
   grind
 ·exact fun H j hb=>by
   grind
 ·rw[d7];exact h7
 ·rw[d7];exact g8
