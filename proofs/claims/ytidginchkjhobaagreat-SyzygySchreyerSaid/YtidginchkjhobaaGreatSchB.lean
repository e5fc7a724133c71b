/- The orders of the laws and their games. -/
import Derived.Test.YtidginchkjhobaaGreatSch
namespace Go.Proofs.YtidginchkjhobaaGreat
open Go.Ev Go.Num Go.RowKit
def u6:List (Nat×Nat):=[(2,5),(2,4),(2,3),(2,2),(2,1),(2,0),(1,5),(1,4),(1,3),(1,2),(1,1),(1,0),(0,5),(0,4),(0,3),(0,2),(0,1),(0,0)]
def zy:List (Nat×Nat):=[(5,2),(4,2),(3,2),(2,2),(1,2),(0,2),(5,1),(4,1),(3,1),(2,1),(1,1),(0,1),(5,0),(4,0),(3,0),(2,0),(1,0),(0,0)]
def oZ:List (Nat×Nat):=[(4,0),(3,1),(2,2),(1,3),(0,4),(3,0),(2,1),(1,2),(0,3),(2,0),(1,1),(0,2),(1,0),(0,1),(0,0)]
def AL:List (Nat×Nat):=[(4,2),(3,2),(4,1),(2,2),(3,1),(4,0),(1,2),(2,1),(3,0),(0,2),(1,1),(2,0),(0,1),(1,0),(0,0)]
theorem FR:QY u6 (W4 u6) 3000 10 3 []=true:=by kernel_rfl
theorem Dt:QY zy (W4 zy) 3000 10 3 []=true:=by kernel_rfl
theorem FT:QY oZ (W4 oZ) 1000 10 3 []=true:=by kernel_rfl
theorem FQ:QY AL (W4 AL) 1000 10 3 []=true:=by kernel_rfl
def nB (a b:Nat):P':=[a,b,1000,1000,1000,1000,1000,1000]
theorem RC (a b c d:Nat):WB (nB a b) (Vi c d)=a*c+b*d:=by simp[nB,WB]
theorem RL (x y:Int)(l:U')(c d:Nat)(h:l.length=6):wt (x::y::l) (Vi c d)=x*c+y*d:=by
 have key:∀(l:U') (n:Nat),wt l (List.replicate n 0)=0:=by
  intro l;induction l with
  |nil=>intro n;cases n<;>rfl
  |cons z l a=>
   intro n;cases n with
   |zero=>rfl
   |succ n=>simp only[List.replicate_succ,wt,a];omega
 show x*(c:Int)+(y*(d:Int)+wt l (List.replicate 6 0))=_;rw[key];omega
theorem jb {r:U'}{o:M'}{m n:P'}(h:WO (r::o) m n):wt r m<wt r n\/(wt r m=wt r n/\WO o m n):=by
 unfold WO at h⊢;unfold WX at h;split at h
 ·cases h
 ·split at h
  ·left;assumption
  ·right;exact⟨by omega,h⟩
theorem HE {a b c d:Nat}(h:WO [] (Vi a b) (Vi c d)):a<c\/(a=c/\b<d):=by
 have e:WJ (Vi c d) (Vi a b)=if c<a then .negSucc 0 else if a<c then .ofNat 1 else if d<b then .negSucc 0 else if b<d then .ofNat 1 else WJ [0,0,0,0,0,0] [0,0,0,0,0,0]:=rfl
 have f:WJ (Vi c d) (Vi a b)=.ofNat 1:=h;rw[e,Qa]at f;by_cases g:a<c
 ·exact .inl g
 ·rw[if_neg g]at f;by_cases i:c<a
  ·rw[if_pos i]at f;cases f
  ·rw[if_neg i]at f;by_cases j:b<d
   ·exact .inr ⟨by omega,j⟩
   ·rw[if_neg j]at f;by_cases k:d<b
    ·rw[if_pos k]at f;cases f
    ·rw[if_neg k]at f;exact absurd f (by decide)
theorem pd {o:M'}{c:List (Nat×Nat)}(h:(c.map m2).Pairwise fun a b=>WO o b a)(k:c.all (fun p=>Nat.blt p.1 16&&Nat.blt p.2 16)=true):vT o c:=by
 refine⟨h,fun p d=> ?_⟩;have:=ZI.1 k p d;simp only[Zs,Nat.blt_eq]at this;exact this
theorem om {w:P'}{a:Nat}(h:uQ w a<=100):∀V,V<=a->(allM w V).length<=100:=fun V b=>Zx (tz w V) (Zx (dE w b) h)
theorem xx {d:List (Nat×Nat)}(h:[(2,0),(1,1),(0,2),(1,0),(0,1),(0,0)].all (fun p=>d.contains p)=true):∀a b,a+b<=2->(a,b)∈d:=by
 intro a b e;have c:(a,b)∈[((2,0):Nat×Nat),(1,1),(0,2),(1,0),(0,1),(0,0)]:=by
  have :(a=0/\b=0)\/(a=0/\b=1)\/(a=0/\b=2)\/(a=1/\b=0)\/(a=1/\b=1)\/(a=2/\b=0):=by omega
  rcases this with⟨rfl,rfl⟩|⟨rfl,rfl⟩|⟨rfl,rfl⟩|⟨rfl,rfl⟩|⟨rfl,rfl⟩|⟨rfl,rfl⟩<;>simp
 have:=ZI.1 h _ c;exact List.contains_iff_mem.1 this
theorem CB {o:M'}(h:(u6.map m2).Pairwise fun a b=>WO o b a)(i:∀a b c d,b<=5->WO o (Vi a b) (Vi c d)->a<c\/(a=c/\b<=d)):tO o u6 (nB 6 1) 3000 10 17:=by
 have f:∀p∈u6,p.1<=2/\p.2<=5:=by decide
 exact⟨⟨pd h (by decide),by decide,rfl,by decide,fun p g c d e=>by
  rw[RC,RC];have:=i _ _ _ _ (f p g).2 e;have:=(f p g).2;omega⟩,xx (by decide),by decide,by decide,by decide,FR,by decide,om (by decide),by decide⟩
theorem Fk {o:M'}(h:(zy.map m2).Pairwise fun a b=>WO o b a)(i:∀a b c d,a<=5->WO o (Vi a b) (Vi c d)->b<d\/(b=d/\a<=c)):tO o zy (nB 1 6) 3000 10 17:=by
 have f:∀p∈zy,p.1<=5/\p.2<=2:=by decide
 exact⟨⟨pd h (by decide),by decide,rfl,by decide,fun p g c d e=>by
  rw[RC,RC];have:=i _ _ _ _ (f p g).1 e;have:=(f p g).1;omega⟩,xx (by decide),by decide,by decide,by decide,Dt,by decide,om (by decide),by decide⟩
theorem jv {o:M'}(h:(oZ.map m2).Pairwise fun a b=>WO o b a)(f:∀a b c d,WO o (Vi a b) (Vi c d)->a+b<=c+d):tO o oZ (nB 1 1) 1000 10 4:=
 ⟨⟨pd h (by decide),by decide,rfl,by decide,fun p g c d e=>by
   rw[RC,RC];have:=f _ _ _ _ e;omega⟩,xx (by decide),by decide,by decide,by decide,FT,by decide,om (by decide),by decide⟩
theorem HQ {o:M'}(h:(AL.map m2).Pairwise fun a b=>WO o b a)(f:∀a b c d,WO o (Vi a b) (Vi c d)->2*a+3*b<=2*c+3*d):tO o AL (nB 2 3) 1000 10 14:=
 ⟨⟨pd h (by decide),by decide,rfl,by decide,fun p g c d e=>by
   rw[RC,RC];exact f _ _ _ _ e⟩,xx (by decide),by decide,by decide,by decide,FQ,by decide,om (by decide),by decide⟩
def JF:M':=[[1,1,1,1,1,1,1,1]]
def EF:M':=[[1,1,1,1,1,1,1,1],[0,0,0,0,0,0,0,-1],[0,0,0,0,0,0,-1,0],[0,0,0,0,0,-1,0,0],[0,0,0,0,-1,0,0,0],[0,0,0,-1,0,0,0,0],[0,0,-1,0,0,0,0,0],[0,-1,0,0,0,0,0,0]]
def IV:M':=[[2,3,1,1,1,1,1,1]]
def Ja:M':=[[1,1,0,0,0,0,0,0],[1,0,2,1,1,1,1,1]]
def kP (x y z t:Int):M':=[x,y,z,t,0,0,0,0]::EF
theorem P5 {l:U'}{o:M'}(e:l.length=6){a b c d:Nat}(h:WO ((1::1::l)::o) (Vi a b) (Vi c d)):a+b<=c+d:=by
 have:=jb h;rw[RL _ _ _ _ _ e,RL _ _ _ _ _ e]at this;omega
theorem Ib (x y z t:Int)(a b c d:Nat):WO (kP x y z t) (Vi a b) (Vi c d)↔WO (kP x y 0 0) (Vi a b) (Vi c d):=by
 unfold WO kP;simp only[WX,RL _ _ _ _ _ (rfl:([z,t,0,0,0,0]:U').length=6),RL _ _ _ _ _ (rfl:([0,0,0,0,0,0]:U').length=6)]
theorem oO {x y:Int}(z t:Int){d:List (Nat×Nat)}(h:(d.map m2).Pairwise fun a b=>WO (kP x y 0 0) b a):(d.map m2).Pairwise fun a b=>WO (kP x y z t) b a:=by
 rw[List.pairwise_map]at h⊢;exact h.imp fun{p q} c=>(Ib x y z t _ _ _ _).2 c
theorem HO:tO [] u6 (nB 6 1) 3000 10 17:=CB (of_decide_eq_true (by kernel_rfl)) fun a b c d _ h=>by
 have:=HE h;omega
theorem HP:tO JF oZ (nB 1 1) 1000 10 4:=jv (of_decide_eq_true (by kernel_rfl)) fun a b c d h=>P5 rfl h
theorem Cz:tO EF oZ (nB 1 1) 1000 10 4:=jv (of_decide_eq_true (by kernel_rfl)) fun a b c d h=>P5 rfl h
theorem HN:tO Ja oZ (nB 1 1) 1000 10 4:=jv (of_decide_eq_true (by kernel_rfl)) fun a b c d h=>P5 rfl h
theorem HM:tO IV AL (nB 2 3) 1000 10 14:=HQ (of_decide_eq_true (by kernel_rfl)) fun a b c d h=>by
 have:=jb h;rw[RL _ _ _ _ _ rfl,RL _ _ _ _ _ rfl]at this;omega
theorem JG (z t:Int):tO (kP 1 1 z t) oZ (nB 1 1) 1000 10 4:=jv (oO z t (of_decide_eq_true (by kernel_rfl))) fun a b c d h=>P5 rfl h
theorem JJ (z t:Int):tO (kP 0 0 z t) oZ (nB 1 1) 1000 10 4:=jv (oO z t (of_decide_eq_true (by kernel_rfl))) fun a b c d h=>by
 rcases jb h with h1|⟨-,h1⟩
 ·rw[RL _ _ _ _ _ rfl,RL _ _ _ _ _ rfl]at h1;omega
 ·exact P5 rfl h1
theorem JH (z t:Int):tO (kP 1 0 z t) u6 (nB 6 1) 3000 10 17:=CB (oO z t (of_decide_eq_true (by kernel_rfl))) fun a b c d _ h=>by
 rcases jb h with h1|⟨e,h1⟩
 ·rw[RL _ _ _ _ _ rfl,RL _ _ _ _ _ rfl]at h1;omega
 ·rw[RL _ _ _ _ _ rfl,RL _ _ _ _ _ rfl]at e;have:=P5 rfl h1;omega
theorem JI (z t:Int):tO (kP 0 1 z t) zy (nB 1 6) 3000 10 17:=Fk (oO z t (of_decide_eq_true (by kernel_rfl))) fun a b c d _ h=>by
 rcases jb h with h1|⟨e,h1⟩
 ·rw[RL _ _ _ _ _ rfl,RL _ _ _ _ _ rfl]at h1;omega
 ·rw[RL _ _ _ _ _ rfl,RL _ _ _ _ _ rfl]at e;have:=P5 rfl h1;omega
def U0 (k:Nat):M':=match k%8 with
 |0=>[]
 |1=>JF
 |2=>EF
 |3=>EF
 |4=>IV
 |5=>Ja
 |_=>kP (if(k / 8).testBit 0 then 1 else 0) (if(k / 8).testBit 1 then 1 else 0) (if(k / 8).testBit 2 then 1 else 0) (if(k / 8).testBit 3 then 1 else 0)
open Go.Ev Go.Num
section
variable {o:M'}{w:P'}{h V e:Nat}
theorem Cw {f:Z'}{D C:Nat}(g:Pl f){s:Qm}(e:XR o f=some s)(d:0<D)(a:D<=C)(b:VQ D C f)(c:2*C<=32^h)(m:h<=1200000000000)(x:XD s.2)(v:WB w s.2<=V)(B:∀u∈f,WB w u.2<=WB w s.2)(q:f.length<=200):He o w h V f:=by
 obtain⟨r,z,t,A⟩:=XK g e;obtain⟨E,i,j,k,l⟩:=CR (b s r) t d;exact⟨⟨s.1,s.2,C,⟨g,e,⟨E,i,j,k.mono a,fun u p=>l _ (b u p)⟩,b.NU d a c m,by omega⟩,c⟩,⟨D,C,d,a,c,b⟩,fun y n=>by
  grind,q⟩
structure Iv (o:M')(w:P')(h V:Nat)(g:Z'):Prop where
 ex:∃m C,Fe o C 1 m g/\2*C<=32^h/\XD m/\g.length<=100/\(∀u∈g,WB w u.2<=WB w m)/\WB w m<=V
theorem Iv.he {g:Z'}(H:Iv o w h V g)(l:h<=1000000):He o w (h+3) (V+e) g:=by
 obtain⟨m,C,F,i,d,j,f,k⟩:=H.ex;obtain⟨D,a,b,c⟩:=F.IM;have :(32:Nat)^h<=32^(h+3):=Yt (by decide) (by omega);exact Cw F.pl F.ld a b c (by omega) (by omega) d (by grind) f (by omega)
theorem int_ne {c:Int}(h:c≠0):(c:Rat)≠0:=by simp_all [Rat.intCast_inj]
theorem um (z:Rat)(f:Z'):(X1 z f).length=f.length:=by grind [X1]
theorem Iv.scale {g:Z'}(H:Iv o w h V g)(v:h<=1000000){c:Int}(a:c≠0)(s:c.natAbs<=128):He o w (h+3) (V+e) (X1 (c:Rat) g):=by
 obtain⟨m,C,F,n,f,p,q,r⟩:=H.ex;obtain⟨D,b,k,d⟩:=F.IM;have y:(32:Nat)^(h+3)=32^h*32768:=Yu ..;refine Cw (D:=D) (C:=128*C) (rk (int_ne a) F.pl) (OQ o _ F.ld) b (by omega) (fun x j=> ?_) (by omega) (by omega) f (by grind) (fun u A=> ?_) (by rw[um];omega)
 ·obtain⟨t,i,-,l⟩:=TU j;obtain⟨z,B,E⟩:=d t i;refine⟨c*z,by grind,?_⟩
  simp_all [Yq,ZT]
 grind [TU]
structure QP (o:M')(w:P')(e:Nat)(q:Z'):Prop where
 pl:Pl q
 ex:∃s,XR o q=some s/\WB w s.2<=e/\∀u∈q,WB w u.2<=WB w s.2
 fr:VQ 1 6 q
 ln:q.length<=2
theorem zj {q g:Z'}:∀{a:Z'},(WY a q g).length<=a.length+q.length*g.length:=by
 induction q with
 |nil=>grind [WY]
 |cons t e d=>
  intro a;unfold WY;have b:=UO _ a (XG t.1 t.2 g) (Ze _);have c:(XG t.1 t.2 g).length=g.length:=by grind [XG]
  grind [ZG]
theorem mh {e:Z'}(g:Q8 e){x:Qm}:∀{d c:Z'},Q8 d->Q8 c->x∈WY c d e->(∃a∈c,a.2=x.2)\/∃t∈d,∃u∈e,x.2=Xg t.2 u.2
 |[],c,_,_,h=>.inl ⟨x,by grind [WY],rfl⟩
 |t::d,c,ht,ha,h=>by
  unfold WY at h;have i:=V9 (z:=t.1) ht.head g;rcases mh g ht.tail (RQ ha i) h with⟨a,f,l⟩|⟨m,f,l⟩
  ·rcases Vj _ (Ze _) ha i f with⟨b,j,k⟩|⟨b,j,k⟩
   ·grind
   grind [Vo,Zc]
  grind
theorem Iv.mul {g q:Z'}(A:w.length=8)(B:∀x∈w,0<x)(H:Iv o w h V g)(P:h<=1000000)(O:V+e<=1000)(Q:QP o w e q):He o w (h+3) (V+e) (WY [] q g):=by
 obtain⟨m,C,F,L,M,l,n,N⟩:=H.ex;obtain⟨D,J,K,i⟩:=F.IM;obtain⟨s,f,U,z⟩:=Q.ex;obtain⟨u,y,S⟩:=rV Q.pl F.pl f F.ld;have X:=(XK Q.pl f).2.1;have T:=F.m8;have R:(32:Nat)^(h+3)=32^h*32768:=Yu ..;have d:=Q.ln;have E:WB w u.2=WB w s.2+WB w m:=by grind [W1]
 have k:q.length*(6*C)<=2*(6*C):=Zn _ d;have p:q.length*g.length<=2*100:=ZT d l;refine Cw (D:=1*D) (C:=12*C) (iG Q.pl F.pl) y (by omega) (by omega) ((fU (c:=0) F.pl.q8 i Q.pl.q8 (fun _ h=>by cases h) Q.fr (fun _ h=>by cases h)).mono (by omega)) (by omega) (by omega) (ez.ok (w:=w) (W:=V+e) ⟨by grind [Vr],by omega⟩ A B (by omega)) (by omega) (fun x r=> ?_) (by grind [zj]);rcases mh F.pl.q8 Q.pl.q8 (fun _ h=>by cases h) r with⟨_,h,_⟩|⟨t,a,v,b,j⟩
 ·cases h
 ·have G:=z t a;have I:=n v b;rw[j,W1 w ((Q.pl.q8 t a).trans (F.pl.q8 v b).symm),E];omega
theorem CK {b:S'}{g q:Z'}(i:∀f∈b,Pl f)(A:g∈b)(j:Pl q){a t:Qm}(z:XR o q=some a)(l:XR o g=some t)(L:∀u∈q,WB w u.2<=WB w a.2)(C:DK o w b):DK o w (b++[WY [] q g]):=by
 intro V v F;have B:=i g A;have K:=(XK j z).2.1;have N:=(XK B l).2.1;obtain⟨u,I,M⟩:=rV j B z l;have p:UF o b (fun n=>L8 n/\WB w n<=V) v:=qV (h:=F) fun f d s k m E D=>by
  rcases ZW.1 d with d|d
  ·exact UF.add (c:=1) d k E D (.zero fun J=>rfl) fun J=>by grind
  ·obtain rfl:=ZS.1 d;rw[I]at k;cases k;have r:=UF.prod (P:=fun n=>L8 n/\WB w n<=V) A l (q:=XG 1 m q) fun x G=>by
    obtain⟨y,H,e,-⟩:=Vo G;have O:=j.q8 y H
    grind [Vr,W1]
   grind [oc,Tr,UD]
 rcases C V v p with h1|⟨δ,f,s,h1,h2,h3,h4,h5,h6⟩
 ·exact .inl h1
 grind
theorem zU {g:Z'}{r:S'}{c:Rat}(j:c≠0){t:Qm}(f:XR o g=some t)(i:DK o w (g::r)):DK o w (X1 c g::r):=by
 have h:=OQ o c f;have e:∀d,X2 (X1 c g) d=c*X2 g d:=fun d=>Ny c d g
 refine DK.KP (fun x b s a=> ?_) (fun x b s a=> ?_) i
 ·rcases Zj.1 b with rfl|b
  ·rw[h]at a;cases a;exact⟨g,Zc ..,t,f,rfl,c,e⟩
  ·exact⟨x,Zb _ b,s,a,rfl,1,fun d=>by grind⟩
 ·rcases Zj.1 b with rfl|b
  ·rw[f]at a;cases a;refine⟨_,Zc ..,_,h,rfl,c⁻¹,fun d=> ?_⟩
   grind
  ·exact⟨x,Zb _ b,s,a,rfl,1,fun d=>by grind⟩
def JR (gs:S')(q:Z'):S':=match gs with
 |[]=>[]
 |g::r=>if q=[]then g::r else(g::r)++[WY [] q g]
def JQ (l:S')(c:Int):S':=match l with
 |[]=>[]
 |g::r=>if c=0 then g::r else X1 (c:Rat) g::r
structure Iy (w:P')(hm Vm e:Nat):Prop where
 hm:hm<=3000
 V:Vm<=17
 e6:e<=6
 q:∀a b,a+b<=1->WB w (Vi a b)<=e
 num:∀W,W<=2*(Vm+e)->(allM w W).length<=210
theorem Ij {ms:List (Nat×Nat)}{x n y:Nat}(P:tO o ms w x n y)(X:Iy w x y e)(o8:Vt o)(ol:o.length<1000000){G:S'}(I:K2 o w x y G){q:Z'}(hq:G2 1 6 2 q){c:Int}(Y:c.natAbs<=128):QS o w (101*x+3) (y+e) (JQ (JR G q) c):=by
 have xm:=X.hm;have xV:=X.V;have x6:=X.e6;have il:=I.ln;have mo:∀g∈G,Iv o w (101*x) y g:=fun g hg=>⟨I.el g hg⟩
 have A:∀{l:S'},(∀f∈l,He o w (101*x+3) (y+e) f)->l.length<=41->DK o w l->QS o w (101*x+3) (y+e) l:=fun L H S=>⟨o8,ol,P.g.w8,P.g.wp,L,H,by omega,X.num,by omega,S⟩
 have D:101*x<=1000000:=by omega
 cases G with
 |nil=>exact A (fun _ h=>by cases h) (by simp[JR,JQ]) I.gb
 |cons g r=>
  have K:=mo g (Zc ..);have N:∀f∈g::r,Pl f:=fun f i=>by obtain⟨m,C,F,-⟩:=(mo f i).ex;exact F.pl
  obtain⟨t,J⟩:∃t,XR o g=some t:=by obtain⟨m,C,F,-⟩:=K.ex;exact⟨_,F.ld⟩
  rw[Zi]at il;obtain⟨p,L,H,S,T⟩:∃p,JR (g::r) q=g::p/\(∀f∈p,He o w (101*x+3) (y+e) f)/\p.length<=40/\DK o w (g::p):=by
   by_cases E:q=[]
   ·exact⟨r,by show(if q=[]then g::r else(g::r)++[WY [] q g])=_;rw[if_pos E],fun f i=>(mo f (Zb _ i)).he D,by omega,I.gb⟩
   ·have Q:QP o w e q:=by
     obtain⟨j,B⟩:=hq;refine⟨j.pl,?_,(fun t J=>by obtain⟨z,z1,z2⟩:=j.cf t J;exact⟨z,by grind,z2⟩),j.len⟩;cases hl:XR o q with
     |none=>grind [Td]
     |some s=>
      obtain⟨O,q2,W,q4⟩:=XK j.pl hl;obtain⟨a,b,e1,M⟩:=B s O;have R:s.2=Vi a b:=e1;refine⟨s,rfl,by rw[R];exact X.q a b M,fun u U=> ?_⟩;rcases q4 u U with k|k
      ·grind
      ·obtain⟨c,d,k1,Z⟩:=B u U;have k2:u.2=m2 (c,d):=k1;rw[k2,R]at k⊢;exact P.g.hw (c,d) (P.hd c d (by omega)) a b k
    obtain⟨s,O,q2,W⟩:=Q.ex;refine⟨r++[WY [] q g],by show(if q=[]then g::r else(g::r)++[WY [] q g])=_;rw[if_neg E];rfl,fun f i=> ?_,by grind,CK N (Zc ..) Q.pl O J W I.gb⟩;rcases ZW.1 i with i|i
    ·exact(mo f (Zb _ i)).he D
    ·rw[ZS.1 i];exact K.mul P.g.w8 P.g.wp D (by omega) Q
  rw[L];by_cases v:c=0
  ·rw[show JQ (g::p) c=g::p by show(if c=0 then g::p else X1 (c:Rat) g::p)=_;rw[if_pos v]];refine A (fun f i=> ?_) (by grind) T;rcases Zj.1 i with rfl|i
   ·exact K.he D
   ·exact H f i
  ·rw[show JQ (g::p) c=X1 (c:Rat) g::p by show(if c=0 then g::p else X1 (c:Rat) g::p)=_;rw[if_neg v]];refine A (fun f i=> ?_) (by grind) (zU (int_ne v) J T);rcases Zj.1 i with rfl|i
   ·exact K.scale D v Y
   ·exact H f i
end
end Go.Proofs.YtidginchkjhobaaGreat
namespace Go.Proofs.YtidginchkjhobaaGreat
open Go.Ev Go.Num
theorem fT {w:P'}{V:Nat}(h:((List.range (V+1)).all fun W=>Nat.ble (allM w W).length 210)=true):∀W,W<=V->(allM w W).length<=210:=fun W a=>Nat.le_of_ble_eq_true (ZI.1 h W (List.mem_range.2 (by omega)))
theorem Gq:Iy (nB 6 1) 3000 17 6:=⟨by decide,by decide,by decide,fun a b h=>by rw[RC];omega,fT (by kernel_rfl)⟩
theorem JE:Iy (nB 1 6) 3000 17 6:=⟨by decide,by decide,by decide,fun a b h=>by rw[RC];omega,fT (by kernel_rfl)⟩
theorem mH:Iy (nB 1 1) 1000 4 1:=⟨by decide,by decide,by decide,fun a b h=>by rw[RC];omega,fT (by kernel_rfl)⟩
theorem JD:Iy (nB 2 3) 1000 14 3:=⟨by decide,by decide,by decide,fun a b h=>by rw[RC];omega,fT (by kernel_rfl)⟩
theorem EZ (k:Nat):∃c w b n a e,tO (U0 k) c w b n a/\Iy w b a e:=by
 unfold U0;split
 ·exact⟨_,_,_,_,_,_,HO,Gq⟩
 ·exact⟨_,_,_,_,_,_,HP,mH⟩
 ·exact⟨_,_,_,_,_,_,Cz,mH⟩
 ·exact⟨_,_,_,_,_,_,Cz,mH⟩
 ·exact⟨_,_,_,_,_,_,HM,JD⟩
 ·exact⟨_,_,_,_,_,_,HN,mH⟩
 ·cases(k / 8).testBit 0<;>cases(k / 8).testBit 1
  ·exact⟨_,_,_,_,_,_,JJ _ _,mH⟩
  ·exact⟨_,_,_,_,_,_,JI _ _,JE⟩
  ·exact⟨_,_,_,_,_,_,JH _ _,Gq⟩
  ·exact⟨_,_,_,_,_,_,JG _ _,mH⟩
theorem EA {r:U'}(h:(r.length==8&&r.all fun x=>decide (-1000<=x)&&decide (x<=1000))=true):vO r:=by
 simp only[Zs,beq_iff_eq,ZI,decide_eq_true_eq]at h;exact h
theorem PN {o:M'}(h:(o.all fun r=>r.length==8&&r.all fun x=>decide (-1000<=x)&&decide (x<=1000))=true):Vt o:=fun r a=>EA (ZI.1 h r a)
theorem Hw (k:Nat):Vt (U0 k)/\(U0 k).length<1000000:=by
 unfold U0;split
 ·exact⟨PN (by decide),by decide⟩
 ·exact⟨PN (by decide),by decide⟩
 ·exact⟨PN (by decide),by decide⟩
 ·exact⟨PN (by decide),by decide⟩
 ·exact⟨PN (by decide),by decide⟩
 ·exact⟨PN (by decide),by decide⟩
 ·generalize (k / 8).testBit 0=a;generalize (k / 8).testBit 1=b;generalize (k / 8).testBit 2=c;generalize (k / 8).testBit 3=d;cases a<;>cases b<;>cases c<;>cases d<;>exact⟨PN (by decide),by decide⟩
end Go.Proofs.YtidginchkjhobaaGreat
