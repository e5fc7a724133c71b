/- The orders of the laws and their games. -/
import Derived.Test.YtidginchkjhobaaGreatSch
namespace Go.Ev
open Go.Proofs.YtidginchkjhobaaGreat
open Go.RowKit
def wO:List (Nat×Nat):=[(2,5),(2,4),(2,3),(2,2),(2,1),(2,0),(1,5),(1,4),(1,3),(1,2),(1,1),(1,0),(0,5),(0,4),(0,3),(0,2),(0,1),(0,0)]
def Bk:List (Nat×Nat):=[(5,2),(4,2),(3,2),(2,2),(1,2),(0,2),(5,1),(4,1),(3,1),(2,1),(1,1),(0,1),(5,0),(4,0),(3,0),(2,0),(1,0),(0,0)]
def qN:List (Nat×Nat):=[(4,0),(3,1),(2,2),(1,3),(0,4),(3,0),(2,1),(1,2),(0,3),(2,0),(1,1),(0,2),(1,0),(0,1),(0,0)]
def Cv:List (Nat×Nat):=[(4,2),(3,2),(4,1),(2,2),(3,1),(4,0),(1,2),(2,1),(3,0),(0,2),(1,1),(2,0),(0,1),(1,0),(0,0)]
theorem HX:Pd wO (Vg wO) 3000 10 3 []=true:=by kernel_rfl
theorem FD:Pd Bk (Vg Bk) 3000 10 3 []=true:=by kernel_rfl
theorem HY:Pd qN (Vg qN) 1000 10 3 []=true:=by kernel_rfl
theorem HW:Pd Cv (Vg Cv) 1000 10 3 []=true:=by kernel_rfl
def oY (a b:Nat):P':=[a,b,1000,1000,1000,1000,1000,1000]
theorem ON (a b c d:Nat):Wu (oY a b) (VH c d)=a*c+b*d:=by simp[oY,Wu]
theorem OM (x y:Int)(l:U')(c d:Nat)(h:l.length=6):wt (x::y::l) (VH c d)=x*c+y*d:=by
 have key:∀(l:U') (n:Nat),wt l (List.replicate n 0)=0:=by
  intro l;induction l with
  |nil=>intro n;cases n<;>rfl
  |cons z l a=>
   intro n;cases n with
   |zero=>rfl
   |succ n=>grind [wt]
 show x*(c:Int)+(y*(d:Int)+wt l (List.replicate 6 0))=_;rw[key];omega
theorem jV {r:U'}{o:M'}{m n:P'}(h:Wz (r::o) m n):wt r m<wt r n\/(wt r m=wt r n/\Wz o m n):=by grind [Wz,WY]
theorem JF {a b c d:Nat}(h:Wz [] (VH a b) (VH c d)):a<c\/(a=c/\b<d):=by
 have e:WS (VH c d) (VH a b)=if c<a then .negSucc 0 else if a<c then .ofNat 1 else if d<b then .negSucc 0 else if b<d then .ofNat 1 else WS [0,0,0,0,0,0] [0,0,0,0,0,0]:=rfl
 have f:WS (VH c d) (VH a b)=.ofNat 1:=h;rw[e,Qj]at f
 grind
theorem qW {o:M'}{c:List (Nat×Nat)}(h:(c.map m2).Pairwise fun a b=>Wz o b a)(k:c.all (fun p=>Nat.blt p.1 16&&Nat.blt p.2 16)=true):xX o c:=by
 refine⟨h,fun p d=> ?_⟩
 grind [Nat.blt_eq]
theorem qe {w:P'}{a:Nat}(h:wC w a<=100):∀V,V<=a->(allM w V).length<=100:=fun V b=>Zy (vd w V) (Zy (eF w b) h)
theorem zj {c:List (Nat×Nat)}(h:[(2,0),(1,1),(0,2),(1,0),(0,1),(0,0)].all (fun p=>c.contains p)=true):∀a b,a+b<=2->(a,b)∈c:=by grind
theorem EG {o:M'}(h:(wO.map m2).Pairwise fun a b=>Wz o b a)(g:∀a b c d,b<=5->Wz o (VH a b) (VH c d)->a<c\/(a=c/\b<=d)):vu o wO (oY 6 1) 3000 10 17:=by
 have f:∀p∈wO,p.1<=2/\p.2<=5:=by decide
 exact⟨⟨qW h (by decide),by decide,rfl,by decide,fun p i c d e=>by
  grind [ON]⟩,zj (by decide),by decide,by decide,by decide,HX,by decide,qe (by decide),by decide⟩
theorem Hs {o:M'}(h:(Bk.map m2).Pairwise fun a b=>Wz o b a)(g:∀a b c d,a<=5->Wz o (VH a b) (VH c d)->b<d\/(b=d/\a<=c)):vu o Bk (oY 1 6) 3000 10 17:=by
 have f:∀p∈Bk,p.1<=5/\p.2<=2:=by decide
 exact⟨⟨qW h (by decide),by decide,rfl,by decide,fun p i c d e=>by
  grind [ON]⟩,zj (by decide),by decide,by decide,by decide,FD,by decide,qe (by decide),by decide⟩
theorem kD {o:M'}(h:(qN.map m2).Pairwise fun a b=>Wz o b a)(f:∀a b c d,Wz o (VH a b) (VH c d)->a+b<=c+d):vu o qN (oY 1 1) 1000 10 4:=
 ⟨⟨qW h (by decide),by decide,rfl,by decide,fun p g c d e=>by
   grind [ON]⟩,zj (by decide),by decide,by decide,by decide,HY,by decide,qe (by decide),by decide⟩
theorem JP {o:M'}(h:(Cv.map m2).Pairwise fun a b=>Wz o b a)(f:∀a b c d,Wz o (VH a b) (VH c d)->2*a+3*b<=2*c+3*d):vu o Cv (oY 2 3) 1000 10 14:=
 ⟨⟨qW h (by decide),by decide,rfl,by decide,fun p g c d e=>by
   grind [ON]⟩,zj (by decide),by decide,by decide,by decide,HW,by decide,qe (by decide),by decide⟩
def LD:M':=[[1,1,1,1,1,1,1,1]]
def GM:M':=[[1,1,1,1,1,1,1,1],[0,0,0,0,0,0,0,-1],[0,0,0,0,0,0,-1,0],[0,0,0,0,0,-1,0,0],[0,0,0,0,-1,0,0,0],[0,0,0,-1,0,0,0,0],[0,0,-1,0,0,0,0,0],[0,-1,0,0,0,0,0,0]]
def KO:M':=[[2,3,1,1,1,1,1,1]]
def K5:M':=[[1,1,0,0,0,0,0,0],[1,0,2,1,1,1,1,1]]
def mJ (x y z t:Int):M':=[x,y,z,t,0,0,0,0]::GM
theorem Oz {l:U'}{o:M'}(e:l.length=6){a b c d:Nat}(h:Wz ((1::1::l)::o) (VH a b) (VH c d)):a+b<=c+d:=by
 have:=jV h
 grind [OM]
theorem J6 (x y z t:Int)(a b c d:Nat):Wz (mJ x y z t) (VH a b) (VH c d)↔Wz (mJ x y 0 0) (VH a b) (VH c d):=by
 unfold Wz mJ;simp only[WY,OM _ _ _ _ _ (rfl:([z,t,0,0,0,0]:U').length=6),OM _ _ _ _ _ (rfl:([0,0,0,0,0,0]:U').length=6)]
theorem qF {x y:Int}(z t:Int){c:List (Nat×Nat)}(h:(c.map m2).Pairwise fun a b=>Wz (mJ x y 0 0) b a):(c.map m2).Pairwise fun a b=>Wz (mJ x y z t) b a:=by grind [J6]
theorem JN:vu [] wO (oY 6 1) 3000 10 17:=EG (of_decide_eq_true (by kernel_rfl)) fun a b c d _ h=>by
 have:=JF h;omega
theorem JO:vu LD qN (oY 1 1) 1000 10 4:=kD (of_decide_eq_true (by kernel_rfl)) fun a b c d h=>Oz rfl h
theorem EE:vu GM qN (oY 1 1) 1000 10 4:=kD (of_decide_eq_true (by kernel_rfl)) fun a b c d h=>Oz rfl h
theorem JM:vu K5 qN (oY 1 1) 1000 10 4:=kD (of_decide_eq_true (by kernel_rfl)) fun a b c d h=>Oz rfl h
theorem JL:vu KO Cv (oY 2 3) 1000 10 14:=JP (of_decide_eq_true (by kernel_rfl)) fun a b c d h=>by
 have:=jV h
 grind [OM]
theorem LF (z t:Int):vu (mJ 1 1 z t) qN (oY 1 1) 1000 10 4:=kD (qF z t (of_decide_eq_true (by kernel_rfl))) fun a b c d h=>Oz rfl h
theorem LI (z t:Int):vu (mJ 0 0 z t) qN (oY 1 1) 1000 10 4:=kD (qF z t (of_decide_eq_true (by kernel_rfl))) fun a b c d h=>by
 rcases jV h with h1|⟨-,h1⟩
 ·grind [OM]
 ·exact Oz rfl h1
theorem LG (z t:Int):vu (mJ 1 0 z t) wO (oY 6 1) 3000 10 17:=EG (qF z t (of_decide_eq_true (by kernel_rfl))) fun a b c d _ h=>by
 rcases jV h with h1|⟨e,h1⟩
 ·grind [OM]
 ·rw[OM _ _ _ _ _ rfl,OM _ _ _ _ _ rfl]at e;have:=Oz rfl h1;omega
theorem LH (z t:Int):vu (mJ 0 1 z t) Bk (oY 1 6) 3000 10 17:=Hs (qF z t (of_decide_eq_true (by kernel_rfl))) fun a b c d _ h=>by
 rcases jV h with h1|⟨e,h1⟩
 ·grind [OM]
 ·rw[OM _ _ _ _ _ rfl,OM _ _ _ _ _ rfl]at e;have:=Oz rfl h1;omega
def Tb (k:Nat):M':=match k%8 with
 |0=>[]
 |1=>LD
 |2=>GM
 |3=>GM
 |4=>KO
 |5=>K5
 |_=>mJ (if(k / 8).testBit 0 then 1 else 0) (if(k / 8).testBit 1 then 1 else 0) (if(k / 8).testBit 2 then 1 else 0) (if(k / 8).testBit 3 then 1 else 0)
section
variable {o:M'}{w:P'}{h V e:Nat}
theorem EC {f:I'}{D C:Nat}(g:Pl f){s:Qm}(e:XB o f=some s)(d:0<D)(a:D<=C)(b:W8 D C f)(c:2*C<=32^h)(m:h<=1200000000000)(x:XA s.2)(v:Wu w s.2<=V)(B:∀u∈f,Wu w u.2<=Wu w s.2)(q:f.length<=200):He o w h V f:=by
 obtain⟨r,z,t,A⟩:=Xy g e;obtain⟨E,i,j,k,l⟩:=EV (b s r) t d;exact⟨⟨s.1,s.2,C,⟨g,e,⟨E,i,j,k.mono a,fun u p=>l _ (b u p)⟩,b.RA d a c m,by omega⟩,c⟩,⟨D,C,d,a,c,b⟩,fun y n=>by
  grind,q⟩
structure Kq (o:M')(w:P')(h V:Nat)(g:I'):Prop where
 ex:∃m C,Fe o C 1 m g/\2*C<=32^h/\XA m/\g.length<=100/\(∀u∈g,Wu w u.2<=Wu w m)/\Wu w m<=V
theorem Kq.he {g:I'}(H:Kq o w h V g)(l:h<=1000000):He o w (h+3) (V+e) g:=by
 obtain⟨m,C,F,i,d,j,f,k⟩:=H.ex;obtain⟨D,a,b,c⟩:=F.LK;have :(32:Nat)^h<=32^(h+3):=Z5 (by decide) (by omega);exact EC F.pl F.ld a b c (by omega) (by omega) d (by grind) f (by omega)
theorem int_ne {c:Int}(h:c≠0):(c:Rat)≠0:=by simp_all [Rat.intCast_inj]
theorem vX (z:Rat)(f:I'):(X2 z f).length=f.length:=by grind [X2]
theorem Kq.scale {g:I'}(H:Kq o w h V g)(v:h<=1000000){c:Int}(a:c≠0)(s:c.natAbs<=128):He o w (h+3) (V+e) (X2 (c:Rat) g):=by
 obtain⟨m,C,F,n,f,p,q,r⟩:=H.ex;obtain⟨D,b,k,d⟩:=F.LK;have y:(32:Nat)^(h+3)=32^h*32768:=Ye ..;refine EC (D:=D) (C:=128*C) (tA (int_ne a) F.pl) (Nh o _ F.ld) b (by omega) (fun x j=> ?_) (by omega) (by omega) f (by grind) (fun u A=> ?_) (by rw[vX];omega)
 ·obtain⟨t,i,-,l⟩:=T8 j;obtain⟨z,B,E⟩:=d t i;refine⟨c*z,by grind,?_⟩
  simp_all [Yp,ZA]
 grind [T8]
structure QP (o:M')(w:P')(e:Nat)(q:I'):Prop where
 pl:Pl q
 ex:∃s,XB o q=some s/\Wu w s.2<=e/\∀u∈q,Wu w u.2<=Wu w s.2
 fr:W8 1 6 q
 ln:q.length<=2
theorem Bb {q g:I'}:∀{a:I'},(Wy a q g).length<=a.length+q.length*g.length:=by
 induction q with
 |nil=>grind [Wy]
 |cons t e d=>
  intro a;unfold Wy;have b:=UY _ a (XD t.1 t.2 g) (Zf _);have c:(XD t.1 t.2 g).length=g.length:=by grind [XD]
  grind [ZX]
theorem ae {e:I'}(g:Q8 e){x:Qm}:∀{d c:I'},Q8 d->Q8 c->x∈Wy c d e->(∃a∈c,a.2=x.2)\/∃t∈d,∃u∈e,x.2=Xg t.2 u.2
 |[],c,_,_,h=>.inl ⟨x,by grind [Wy],rfl⟩
 |t::d,c,ht,ha,h=>by
  unfold Wy at h;have i:=Ud (z:=t.1) ht.head g;rcases ae g ht.tail (R3 ha i) h with⟨a,f,l⟩|⟨m,f,l⟩
  ·rcases WC _ (Zf _) ha i f with⟨b,j,k⟩|⟨b,j,k⟩
   ·grind
   grind [WZ,Zc]
  grind
theorem Kq.mul {g q:I'}(A:w.length=8)(B:∀x∈w,0<x)(H:Kq o w h V g)(P:h<=1000000)(O:V+e<=1000)(Q:QP o w e q):He o w (h+3) (V+e) (Wy [] q g):=by
 obtain⟨m,C,F,L,M,l,n,N⟩:=H.ex;obtain⟨D,J,K,i⟩:=F.LK;obtain⟨s,f,U,z⟩:=Q.ex;obtain⟨u,y,S⟩:=tZ Q.pl F.pl f F.ld;have X:=(Xy Q.pl f).2.1;have T:=F.m8;have R:(32:Nat)^(h+3)=32^h*32768:=Ye ..;have d:=Q.ln;have E:Wu w u.2=Wu w s.2+Wu w m:=by grind [Wr]
 have k:q.length*(6*C)<=2*(6*C):=Zm _ d;have p:q.length*g.length<=2*100:=ZA d l;refine EC (D:=1*D) (C:=12*C) (Rc Q.pl F.pl) y (by omega) (by omega) ((On (c:=0) F.pl.q8 i Q.pl.q8 (fun _ h=>by cases h) Q.fr (fun _ h=>by cases h)).mono (by omega)) (by omega) (by omega) (QJ.ok (w:=w) (W:=V+e) ⟨by grind [Wo],by omega⟩ A B (by omega)) (by omega) (fun x r=> ?_) (by grind [Bb]);rcases ae F.pl.q8 Q.pl.q8 (fun _ h=>by cases h) r with⟨_,h,_⟩|⟨t,a,v,b,j⟩
 ·cases h
 ·have G:=z t a;have I:=n v b;rw[j,Wr w ((Q.pl.q8 t a).trans (F.pl.q8 v b).symm),E];omega
theorem EN {b:S'}{g q:I'}(i:∀f∈b,Pl f)(A:g∈b)(j:Pl q){a t:Qm}(z:XB o q=some a)(l:XB o g=some t)(L:∀u∈q,Wu w u.2<=Wu w a.2)(C:FV o w b):FV o w (b++[Wy [] q g]):=by
 intro V v F;have B:=i g A;have K:=(Xy j z).2.1;have N:=(Xy B l).2.1;obtain⟨u,I,M⟩:=tZ j B z l;have p:UP o b (fun n=>L8 n/\Wu w n<=V) v:=sV (h:=F) fun f d s k m E D=>by
  rcases ZS.1 d with d|d
  ·exact UP.add (c:=1) d k E D (.zero fun J=>rfl) fun J=>by grind
  ·obtain rfl:=Yj.1 d;rw[I]at k;cases k;have r:=UP.prod (P:=fun n=>L8 n/\Wu w n<=V) A l (q:=XD 1 m q) fun x G=>by
    obtain⟨y,H,e,-⟩:=WZ G;have O:=j.q8 y H
    grind [Wo,Wr]
   grind [N4,Ux,Vj]
 rcases C V v p with h1|⟨δ,f,s,h1,h2,h3,h4,h5,h6⟩
 ·exact .inl h1
 grind
theorem BF {g:I'}{r:S'}{c:Rat}(j:c≠0){t:Qm}(f:XB o g=some t)(i:FV o w (g::r)):FV o w (X2 c g::r):=by
 have h:=Nh o c f;have e:∀d,XZ (X2 c g) d=c*XZ g d:=fun d=>N3 c d g
 refine FV.MW (fun x b s a=> ?_) (fun x b s a=> ?_) i
 ·rcases Zk.1 b with rfl|b
  ·rw[h]at a;cases a;exact⟨g,Zc ..,t,f,rfl,c,e⟩
  ·exact⟨x,Za _ b,s,a,rfl,1,fun d=>by grind⟩
 ·rcases Zk.1 b with rfl|b
  ·rw[f]at a;cases a;refine⟨_,Zc ..,_,h,rfl,c⁻¹,fun d=> ?_⟩
   grind
  ·exact⟨x,Za _ b,s,a,rfl,1,fun d=>by grind⟩
def LR (gs:S')(q:I'):S':=match gs with
 |[]=>[]
 |g::r=>if q=[]then g::r else(g::r)++[Wy [] q g]
def KG (l:S')(c:Int):S':=match l with
 |[]=>[]
 |g::r=>if c=0 then g::r else X2 (c:Rat) g::r
structure ID (w:P')(hm Vm e:Nat):Prop where
 hm:hm<=3000
 V:Vm<=17
 e6:e<=6
 q:∀a b,a+b<=1->Wu w (VH a b)<=e
 num:∀W,W<=2*(Vm+e)->(allM w W).length<=210
theorem Kd {ms:List (Nat×Nat)}{x n y:Nat}(P:vu o ms w x n y)(X:ID w x y e)(o8:Vq o)(ol:o.length<1000000){G:S'}(I:M9 o w x y G){q:I'}(hq:G2 1 6 2 q){c:Int}(Y:c.natAbs<=128):aD o w (101*x+3) (y+e) (KG (LR G q) c):=by
 have xm:=X.hm;have xV:=X.V;have x6:=X.e6;have il:=I.ln;have mo:∀g∈G,Kq o w (101*x) y g:=fun g hg=>⟨I.el g hg⟩
 have A:∀{l:S'},(∀f∈l,He o w (101*x+3) (y+e) f)->l.length<=41->FV o w l->aD o w (101*x+3) (y+e) l:=fun L H S=>⟨o8,ol,P.g.w8,P.g.wp,L,H,by omega,X.num,by omega,S⟩
 have D:101*x<=1000000:=by omega
 cases G with
 |nil=>exact A (fun _ h=>by cases h) (by simp[LR,KG]) I.gb
 |cons g r=>
  have K:=mo g (Zc ..);have N:∀f∈g::r,Pl f:=fun f i=>by obtain⟨m,C,F,-⟩:=(mo f i).ex;exact F.pl
  obtain⟨t,J⟩:∃t,XB o g=some t:=by obtain⟨m,C,F,-⟩:=K.ex;exact⟨_,F.ld⟩
  rw[Zj]at il;obtain⟨p,L,H,S,T⟩:∃p,LR (g::r) q=g::p/\(∀f∈p,He o w (101*x+3) (y+e) f)/\p.length<=40/\FV o w (g::p):=by
   by_cases E:q=[]
   ·exact⟨r,by show(if q=[]then g::r else(g::r)++[Wy [] q g])=_;rw[if_pos E],fun f i=>(mo f (Za _ i)).he D,by omega,I.gb⟩
   ·have Q:QP o w e q:=by
     obtain⟨j,B⟩:=hq;refine⟨j.pl,?_,(fun t J=>by obtain⟨z,z1,z2⟩:=j.cf t J;exact⟨z,by grind,z2⟩),j.len⟩;cases hl:XB o q with
     |none=>grind [Vy]
     |some s=>
      obtain⟨O,q2,W,q4⟩:=Xy j.pl hl;obtain⟨a,b,e1,M⟩:=B s O;have R:s.2=VH a b:=e1;refine⟨s,rfl,by rw[R];exact X.q a b M,fun u U=> ?_⟩;rcases q4 u U with k|k
      ·grind
      ·obtain⟨c,d,k1,Z⟩:=B u U;have k2:u.2=m2 (c,d):=k1;rw[k2,R]at k⊢;exact P.g.hw (c,d) (P.hd c d (by omega)) a b k
    obtain⟨s,O,q2,W⟩:=Q.ex;refine⟨r++[Wy [] q g],by show(if q=[]then g::r else(g::r)++[Wy [] q g])=_;rw[if_neg E];rfl,fun f i=> ?_,by grind,EN N (Zc ..) Q.pl O J W I.gb⟩;rcases ZS.1 i with i|i
    ·exact(mo f (Za _ i)).he D
    ·rw[Yj.1 i];exact K.mul P.g.w8 P.g.wp D (by omega) Q
  rw[L];by_cases v:c=0
  ·rw[show KG (g::p) c=g::p by show(if c=0 then g::p else X2 (c:Rat) g::p)=_;rw[if_pos v]];refine A (fun f i=> ?_) (by grind) T;rcases Zk.1 i with rfl|i
   ·exact K.he D
   ·exact H f i
  ·rw[show KG (g::p) c=X2 (c:Rat) g::p by show(if c=0 then g::p else X2 (c:Rat) g::p)=_;rw[if_neg v]];refine A (fun f i=> ?_) (by grind) (BF (int_ne v) J T);rcases Zk.1 i with rfl|i
   ·exact K.scale D v Y
   ·exact H f i
end
theorem gS {w:P'}{V:Nat}(h:((List.range (V+1)).all fun W=>Nat.ble (allM w W).length 210)=true):∀W,W<=V->(allM w W).length<=210:=fun W a=>Nat.le_of_ble_eq_true (ZH.1 h W (List.mem_range.2 (by omega)))
theorem Is:ID (oY 6 1) 3000 17 6:=⟨by decide,by decide,by decide,fun a b h=>by rw[ON];omega,gS (by kernel_rfl)⟩
theorem LC:ID (oY 1 6) 3000 17 6:=⟨by decide,by decide,by decide,fun a b h=>by rw[ON];omega,gS (by kernel_rfl)⟩
theorem uu:ID (oY 1 1) 1000 4 1:=⟨by decide,by decide,by decide,fun a b h=>by rw[ON];omega,gS (by kernel_rfl)⟩
theorem LB:ID (oY 2 3) 1000 14 3:=⟨by decide,by decide,by decide,fun a b h=>by rw[ON];omega,gS (by kernel_rfl)⟩
theorem G7 (k:Nat):∃c w b n a e,vu (Tb k) c w b n a/\ID w b a e:=by
 unfold Tb;split
 ·grind [JN,Is]
 ·grind [JO,uu]
 ·grind [EE,uu]
 ·grind [EE,uu]
 ·grind [JL,LB]
 ·grind [JM,uu]
 grind [LI,uu,LH,LC,LG,Is,LF]
theorem GH {r:U'}(h:(r.length==8&&r.all fun x=>decide (-1000<=x)&&decide (x<=1000))=true):xQ r:=by
 simp only[Zs,beq_iff_eq,ZH,decide_eq_true_eq]at h;exact h
theorem Oe {o:M'}(h:(o.all fun r=>r.length==8&&r.all fun x=>decide (-1000<=x)&&decide (x<=1000))=true):Vq o:=fun r a=>GH (ZH.1 h r a)
theorem Jw (k:Nat):Vq (Tb k)/\(Tb k).length<1000000:=by
 unfold Tb;split
 ·grind [Oe]
 ·exact⟨Oe (by decide),by decide⟩
 ·exact⟨Oe (by decide),by decide⟩
 ·exact⟨Oe (by decide),by decide⟩
 ·exact⟨Oe (by decide),by decide⟩
 ·exact⟨Oe (by decide),by decide⟩
 ·generalize (k / 8).testBit 0=a;generalize (k / 8).testBit 1=b;generalize (k / 8).testBit 2=c;generalize (k / 8).testBit 3=d;cases a<;>cases b<;>cases c<;>cases d<;>exact⟨Oe (by decide),by decide⟩
