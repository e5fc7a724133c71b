/- Lists whose sizes are known: divisions of their S-polynomials. -/
import Derived.Test.YtidginchkjhobaaGreatGamB
import Derived.Test.YtidginchkjhobaaGreatIs
set_option maxHeartbeats 16000000
set_option maxRecDepth 100000
namespace Go.Proofs.YtidginchkjhobaaGreat
open Go.Ev Go.Num
theorem Dh {o:M'}{t:Z'->Prop}{n:P'->Prop}{fs:S'}{l r:Z'}{q p:S'}{s:Z'}(h:eA o t n fs l q r p s):∀{g:S'} {i:Z'},eA o t n fs l q r g i->p=g/\s=i:=by
 induction h with
 |done=>
  intro g i k;cases k with
  |done=>exact⟨rfl,rfl⟩
  |rem _ _ _ c=>cases c
  |div _ _ _ _ _ _ _ _ _ _ c=>cases c
 |rem u v c3 c j h m=>
  intro g i k;cases k with
  |done=>cases c
  |rem _ _ _ a b k=>rw[c]at a;cases a;exact m k
  |div _ _ _ _ _ _ _ _ _ _ a b=>rw[c]at a;cases a;rw[j]at b;cases b
 |div u v c3 c4 c5 c6 A B C c10 c j x z D y h m=>
  intro g i k;cases k with
  |done=>cases c
  |rem _ _ _ a b=>rw[c]at a;cases a;rw[j]at b;cases b
  |div _ _ _ _ _ _ _ _ _ _ a b d f w e k=>
   rw[c]at a;cases a;rw[j]at b;cases b;rw[x]at d;cases d;rw[z]at f;cases f;rw[y]at e;cases e;exact m k
structure He (o:M')(w:P')(h V:Nat)(f:Z'):Prop where
 fe:∃lc m A,Fe o A lc m f/\2*A<=32^h
 cd:∃D A,0<D/\D<=A/\2*A<=32^h/\VQ D A f
 wl:∀s,XR o f=some s->XD s.2/\WB w s.2<=V/\∀u∈f,WB w u.2<=WB w s.2
 ln:f.length<=200
section
variable {o:M'}{w:P'}{h V N:Nat}{f:Z'}
theorem He.pl (H:He o w h V f):Pl f:=by obtain⟨⟨_,_,_,F,_⟩,_⟩:=H;exact F.pl
theorem He.ne (H:He o w h V f):f≠[]:=by
 obtain⟨⟨_,_,_,F,_⟩,_⟩:=H;rintro rfl;cases F.ld
theorem He.JO (H:He o w h V f){fs:S'}(j:f∈fs){s:Qm}{us:Z'}(e:Vz o f=s::us)(i:Nat):Ol o w (32^h) fs (s,f,us,i):=by
 have b:=WL o f;rw[e]at b;have a:=U5 (o:=o) H.pl.SQ;rw[e]at a;have c:=Pk H.pl e;obtain⟨D,A,d,m,n,g⟩:=H.cd;have p:=H.ln;exact⟨j,H.pl,c,a,b,⟨D,d,by omega,fun u k=>by
  obtain⟨z,l,q⟩:=g u k;exact⟨z,l,by omega⟩⟩,(H.wl s c).2.2,by show f.length<50000;omega⟩
theorem C9 {fs:S'}:∀(l:S') (i:Nat),(∀f∈l,f∈fs/\He o w h V f)->∀d∈Vb o l i,Ol o w (32^h) fs d/\d.2.1∈l
 |[],_,_,d,hd=>by cases hd
 |f::l,i,H,d,hd=>by
  obtain⟨j,k⟩:=H f (Zc ..);have c:=C9 l (i+1) fun g m=>H g (Zb _ m)
  unfold Vb at hd;split at hd
  ·obtain⟨a,b⟩:=c d hd;exact⟨a,Zb _ b⟩
  ·rename_i t us e;rcases Zj.1 hd with rfl|hd
   ·exact⟨k.JO j e i,Zc ..⟩
   ·obtain⟨a,b⟩:=c d hd;exact⟨a,Zb _ b⟩
theorem GX {n:Nat}(d:n<=210)(j:h<=1000000):∃k,k<200000000000/\2*32^h*32^h*(2*32^h)^n*32^h<4294967296^k/\32^h<4294967296^k:=by
 have l:(h+1)*n<=(h+1)*210:=Yb _ d;obtain⟨k,e,m⟩:=Gh (h:=3*h+1+(h+1)*n) (by omega);have e1:(32:Nat)^(3*h+1+(h+1)*n)=32*(32^h*32^h*32^h)*(32^(h+1))^n:=by
  rw[<-Nat.pow_mul,Yu,ZQ,show 3*h=h+h+h by omega,Yu,Yu,ZR _ 32]
 have e2:2*32^h<=32^(h+1):=by rw[ZQ];omega
 have c:=Nat.pow_le_pow_left e2 n;have a:0<32^h:=YN (by decide);have b:0<(2*32^h)^n:=YN (by omega);generalize f:(32^(h+1))^n=X at *;generalize g:(2*32^h)^n=Y at *;generalize i:(32:Nat)^h=Z at *;have o:2*Z*Z*Y*Z=2*(Z*Z*Z*Y):=by
  rw[Nat.mul_right_comm _ Y,Z3 2,Z3 2,Z3 2]
 have p:32*(Z*Z*Z)*X=32*(Z*Z*Z*X):=Z3 ..;have q:Z*Z*Z*Y<=Z*Z*Z*X:=Yb _ c;have r:0<Z*Z*Z*Y:=Yi (Yi (Yi a a) a) b;have s:Z*1<=Z*(Z*Z*Y):=Yb _ (Yi (Yi a a) b);have t:Z*(Z*Z*Y)=Z*Z*Z*Y:=by rw[<-Z3,<-Z3]
 exact⟨k,e,by omega,by omega⟩
structure QS (o:M')(w:P')(h V:Nat)(fs:S'):Prop where
 o8:Vt o
 ol:o.length<1000000
 w8:w.length=8
 wp:∀x∈w,0<x
 el:∀f∈fs,He o w h V f
 ln:fs.length<=41
 vv:V<=100
 nm:∀W,W<=2*V->(allM w W).length<=210
 hh:h<=1000000
 gb:DK o w fs
variable {fs:S'}
theorem QS.EU (H:QS o w h V fs):∀f∈fs,Pl f:=fun f a=>(H.el f a).pl
theorem QS.dv (H:QS o w h V fs):∀d∈Vb o fs 0,Ol o w (32^h) fs d:=fun d b=>(C9 fs 0 (fun f a=>⟨a,H.el f a⟩) d b).1
theorem QS.cx (H:QS o w h V fs){k W:Nat}(b:k<200000000000)(a:W<=65535):Cx o w W (32^h) k fs (Vb o fs 0):=
 ⟨H.w8,H.wp,a,H.dv,YN (by decide),b,H.EU⟩
theorem QS.rg (H:QS o w h V fs){W:Nat}(z:W<=65535):Rg o fs (fun _=>h) (SO o (allM w W)):=by
 have ls:=ow (o:=o) H.w8 H.wp W;refine⟨ls.dc,fun n B=>(ls.xh n B).ok H.w8 H.wp z,fun a g=> ?_⟩;cases d:WE o a fs 0 with
 |none=>exact .inl rfl
 |some i=>
  right;obtain⟨f,s,b,k,l⟩:=OW d;rw[YW]at b;have E:=H.el f (Zk b);obtain⟨q,m,A,F,y⟩:=E.fe;have D:s=(q,m):=by
   have:=F.ld;rw[k]at this;cases this;rfl
  subst D;obtain⟨G,-,e⟩:=E.wl _ k;refine⟨i,f,q,m,A,rfl,b,F,y,l,fun u p _=> ?_⟩;have c:=ls.xh a g;have j:=Vy c.1 F.m8;have C:Xg (XQ a m) m=a:=by rw[XW];exact W6 (F.m8.trans c.1.symm) l
  have r:=F.pl.q8 u p;refine WS.2 (TF (H.w8.trans (Vr j r).symm) H.wp ?_);rw[W1 w (j.trans r.symm)];have t:=e u p;have x:=c.2;rw[<-C,W1 w (j.trans F.m8.symm)]at x;have v:WB w u.2<=WB w m:=t;omega
structure xZ (o:M')(w:P')(h:Nat)(fs:S')(d e:Dv)(n k:Nat)(tq Qs:S')(D C:Nat):Prop where
 hd:Ol o w (32^h) fs d
 he:Ol o w (32^h) fs e
 k9:k<200000000000
 ok:DA d e
 wl:WB w (Pn d e)<=200
 num:(allM w (WB w (Pn d e))).length<=210
 Lr:(uZ o w d e).length<=210
 sz:2*32^h*32^h*(2*32^h)^(uZ o w d e).length*32^h<4294967296^k
 pN:(kx d e).length<60000
 S:J1 k o (uZ o w d e) fs (kx d e) n tq [] Qs []
 D0:0<D
 DC:D<=C
 Ly:2*C<=32^(212*h+1)
 fr:∀Q∈Qs,VQ D C Q
 Lo:∀Q∈Qs,Q.length<=210
 sum:∀φ,X2 (kx d e) φ=V6 Qs fs φ
theorem QS.pair (H:QS o w h V fs){d e:Dv}(a:Ol o w (32^h) fs d)(b:Ol o w (32^h) fs e):∃n k tq Qs D C,xZ o w h fs d e n k tq Qs D C:=by
 have vv:=H.vv;have hh:=H.hh;have G:WB w (Pn d e)<=2*V:=by
  have g:=((H.el _ a.mem).wl _ a.ld).2.1;have s:=((H.el _ b.mem).wl _ b.ld).2.1;have:=vV w d.1.2 e.1.2;show WB w (XJ d.1.2 e.1.2)<=2*V;omega
 have j:=H.nm _ G;have c:(uZ o w d e).length<=210:=Zx (Zx (List.length_filter_le ..) (Np _)) j;obtain⟨k,I,l,m⟩:=GX (h:=h) c hh;have ok:DA d e:=GV I m H.w8 H.wp (by omega) a b;have q:=Gk H.w8 H.wp a b;have A:∀u∈kx d e,u.2∈uZ o w d e:=fun u p=>by
  obtain⟨g,s⟩:=wi a b u p;exact wV H.w8 H.wp g s
 have r:0<32^h:=YN (by decide);have x:1<=2*32^h*32^h:=Yi (Yi (by decide) r) r;have f:=gL a b;obtain⟨n,tq,tr,Qs,R,S⟩:=sO (H.cx I (W:=WB w (Pn d e)) (by omega)) q (by omega) f A (ud a b) x l;have F:tr=[]:=by
  refine HS (H.gb (WB w (Pn d e))) S.Lq ?_ fun u p Z z s' E=> ?_
  ·have q1:=wh a b (P:=fun n=>L8 n/\WB w n<=WB w (Pn d e)) ⟨pP a b,Ze _⟩;have q2:=(S.KI.mono (Q:=fun n=>L8 n/\WB w n<=WB w (Pn d e)) fun n B=>(fV H.w8 H.wp B).1).smul (-1);exact(q1.plus q2).congr fun K=>by grind
  ·obtain⟨T,g,s,-⟩:=gk fs 0 H.EU Z z s' E;rw[<-s];exact S.nd u p T g
 subst F;have hR:R=[]:=S.rest.symm.trans rfl;subst hR;have pN:(kx d e).length<60000:=by
  have g:=PO.dH q.dc (fun n B=>(fV H.w8 H.wp B).1.1) (U5 f.SQ) fun u p=>A u ((WL o _).mem_iff.1 p)
  rw[T7]at g;omega
 obtain⟨N,U,X,Y⟩:=ud a b;have rg:Rg o fs (fun _=>h) (uZ o w d e):=(H.rg (W:=WB w (Pn d e)) (by omega)).below (pP a b);have y:=O3 h (uZ o w d e);have a0:(uZ o w d e).length*h<=210*h:=Zn _ c;have v:2*(2*32^h*32^h)<=32^(2*h+1):=by
  rw[ZQ,show 2*h=h+h by omega,Yu];have :2*32^h*32^h=2*(32^h*32^h):=Z3 ..;omega
 obtain⟨O,R',M,L,g1,g2,g3,g4,-,g6,J,-,-,-,-,-,t⟩:=CI (NN:=(uZ o w d e).length+1) (by omega) (uZ o w d e) rg (by omega) (left:=kx d e) (R:=[]) (Qs:=List.replicate fs.length []) (D:=N) (C:=2*32^h*32^h) (H:=2*h+1) f A U X v (by omega) Y (by simp) (fun Q i=>by
  rw[(YR.1 i).2];exact⟨Pl.nil,(fun _ h=>by cases h),by simp⟩) Pl.nil (fun _ h=>by cases h) (by simp) (fun _ h=>by cases h)
 obtain⟨rfl,rfl⟩:=Dh S.ref g1;refine⟨n,k,tq,Qs,M,L,a,b,I,ok,by omega,j,c,l,pN,S,g2,g3,?_,fun Q i=>(J Q i).2.1,fun Q i=>by have:=(J Q i).2.2;omega,fun K=> ?_⟩
 ·refine Zx g4 (Yt (by decide) ?_);omega
 ·have:=t K;rw[aV]at this;simp only[X2]at this
  grind
end
end Go.Proofs.YtidginchkjhobaaGreat
namespace Go.Proofs.YtidginchkjhobaaGreat
open Go.Ev Go.Num
section
variable {B:Xs}{o:M'}{w:P'}{h V:Nat}{fs:S'}{lo L:PL}{ls:N'}
theorem QS.pj (H:QS o w h V fs):∀y:List (Nat×Nat),(∀p∈y,p.1<(Vb o fs 0).length/\p.2<(Vb o fs 0).length)->pK o (Vb o fs 0) y true
 |[],_=>.nil
 |(i,j)::y,hp=>by
  have F:=H.pj y fun p h=>hp p (Zb _ h)
  obtain⟨L,M⟩:=hp (i,j) (Zc ..);have g:=Zg L;have l:=Zg M;have a:=H.dv _ (Zk g);have c:=H.dv _ (Zk l);generalize (Vb o fs 0)[i]=d at *;generalize (Vb o fs 0)[j]=e at *;by_cases r:QW d.1.2 e.1.2=Tz
  ·exact .skip g l r F
  ·obtain⟨n,k,tq,Qs,D,C,P⟩:=H.pair a c;have wl:=P.wl;have a0:=P.Lr;have x:=gL a c;have v:0<32^h:=YN (by decide);have B:1<=2*32^h*32^h:=Yi (Yi (by decide) v) v;have po:PO o (Vz o (kx d e)):=U5 x.SQ;have E:∀u∈Vz o (kx d e),u.2∈uZ o w d e:=fun u T=>by
    obtain⟨z,A⟩:=wi a c u ((WL o _).mem_iff.1 T);exact wV H.w8 H.wp z A
   have I:Cf (2*32^h*32^h) (Vz o (kx d e)):=(ud a c).sub fun t S=>(WL o _).mem_iff.1 S
   obtain⟨m,tr,U,X⟩:=dh (H.cx P.k9 (W:=WB w (Pn d e)) (by omega)) (tq:=List.replicate (Vb o fs 0).length []) (fun q O=>by
    rw[(YR.1 O).2];exact⟨(fun _ h=>by cases h),by simp⟩) (uZ o w d e) (Gk H.w8 H.wp a c) (by omega) po E I B P.sz
   have b:SI (kx d e):=Pt x;rcases X with⟨rfl,G⟩|⟨t,p1,rfl,G,k4,Y,Z⟩
   ·exact .ok g l r P.ok b P.pN U F
   ·exfalso;have r1:=wh a c (P:=fun n=>L8 n/\WB w n<=WB w (Pn d e)) ⟨pP a c,Ze _⟩;have r2:=(Z.mono (Q:=fun n=>L8 n/\WB w n<=WB w (Pn d e)) fun n N=>(fV H.w8 H.wp N).1).smul (-1);refine CM (H.gb (WB w (Pn d e))) G ((r1.plus r2).congr fun φ=>by rw[bA];grind) fun f K s R=> ?_
    obtain⟨J,z,A,h3⟩:=gk fs 0 H.EU f K s R;rw[<-A];exact Y J z
theorem jL (o:M'):∀(fs:S') (i:Nat),(Vb o fs i).length<=fs.length
 |[],_=>Ze _
 |f::fs,i=>by
  have a:=jL o fs (i+1);unfold Vb;split
  ·simp only[Zi];omega
  ·simp only[Zi];omega
theorem QS.Fc (c:pv B)(H:QS o w h V fs)(i:TR lo o)(e:Xu B 50 [.one lo] (.one (.bool true)))(g:Sl L (Xf ls))(a:VS ls fs):Xu B 53 [.one L,.one lo] (.one (.bool true)):=by
 have k:=H.ln;have j:=jL o fs 0;exact og c i H.o8 H.ol e g a (fun f b=>⟨Pt (H.EU f b),by have:=(H.el f b).ln;omega⟩) (by omega) (by omega) (H.pj _ fun p d=>by
  obtain⟨p,q⟩:=p;have:=(BT (Ze _)).1 d;exact⟨by omega,by omega⟩)
theorem QS.Ge (m:Std B)(H:QS o w h V fs)(v:TR lo o)(r:Xu B 22 [.one lo] (.one (.bool true)))(W:Sl L (Xf ls))(e:VS ls fs){f g:Z'}{s t:Qm}{us vs:Z'}{i j:Nat}{n k:Nat}{tq Qs:S'}{D C:Nat}(P:xZ o w h fs (s,f,us,i) (t,g,vs,j) n k tq Qs D C){p q:PL}(I:PQ p f)(J:PQ q g):
  ∃x b d,Xu B 58 [.one p,.one q,.one lo] (.X9 [.one x,.one (LA 0)])/\Xu B 109 [.one x,.one L,.one lo] (.agg [.Xn (Xf b),d,LA 0])/\VS b Qs/\Sl d []/\b.length=fs.length:=by
 have K:XR o f=some s:=P.hd.ld;have M:XR o g=some t:=P.he.ld;have a:=P.ok;have N:=(H.el _ P.hd.mem).ln;have Q:=(H.el _ P.he.mem).ln;have O:f.length<=200:=N;have R:g.length<=200:=Q;have X:=H.ln;have e1:=wO (XJ s.2 t.2) s;have e2:=wO (XJ s.2 t.2) t;obtain⟨T,U,u⟩:=uv m v H.o8 H.ol r I J (by omega) (by omega) K M a.ht a.hs a.t0 a.s0 a.zt a.zs (by rw[e1];exact a.ot) (by rw[e2];exact a.os) (by rw[e1];exact a.ht.inv) (by rw[e2];exact a.hs.inv) (by rw[e1];exact QV a.t0) (by rw[e2];exact QV a.s0) (by rw[e1];exact a.rt) (by rw[e2];exact a.rs);rw[G7]at u;obtain⟨b,d,y,z,A,E⟩:=xL m v H.o8 H.ol W e (fun f G=>by have:=(H.el f G).ln;omega) (by omega) r (lp:=.Xn T) ⟨_,.Xn,u⟩ P.S.ref;obtain⟨F,c,l⟩:=A;rw[uG l]at c;exact⟨_,b,d,U,y,z,c,E⟩
theorem QS.Jn (d:Std B)(H:QS o w h V fs)(l:TR lo o)(i:Xu B 22 [.one lo] (.one (.bool true)))(j:Sl L (Xf ls))(b:VS ls fs){f:Z'}(c:f∈fs){p:PL}(e:PQ p f):∀{rest:N'} {gs:S'},VS rest gs->(∀g∈gs,g∈fs)->XS B fun E _=>DW E L lo p rest false
 |[],_,.nil,_=>XS.of fun _ _=>.nil
 |q::rest,g::gs,.cons hq h',hm=>by
  have x:=H.Jn d l i j b c e h' fun g v=>hm g (Zb _ v)
  have a:=hm g (Zc ..);obtain⟨s,us,r⟩:=aX (o:=o) (H.el f c).ne;obtain⟨t,vs,u⟩:=aX (o:=o) (H.el g a).ne;obtain⟨n,k,tq,Qs,D,C,P⟩:=H.pair ((H.el f c).JO c r 0) ((H.el g a).JO a u 0);obtain⟨J,y,I,z,A,-,G,-⟩:=H.Ge d l i j b P e hq;have F:=yC d A;exact(x.and (z.Xk.and F.Xk)).mono fun E K ⟨m,e1,e2⟩=>.ok e1 e2 G m
theorem QS.Ju (c:Std B)(H:QS o w h V fs)(i:TR lo o)(d:Xu B 22 [.one lo] (.one (.bool true)))(e:Sl L (Xf ls))(a:VS ls fs):∀{rest:N'} {gs:S'},VS rest gs->(∀g∈gs,g∈fs)->XS B fun E _=>It E L lo rest false
 |[],_,.nil,_=>XS.of fun _ _=>.nil
 |p::rest,f::gs,.cons hp h',hm=>by
  have k:=H.Ju c i d e a h' fun g b=>hm g (Zb _ b)
  have r:=H.Jn c i d e a (hm f (Zc ..)) hp h' fun g b=>hm g (Zb _ b)
  exact(k.and r).mono fun E K ⟨j,e1⟩=>.next e1 j
theorem QS.Bu (c:Std B)(H:QS o w h V fs)(j:TR lo o)(d:Xu B 22 [.one lo] (.one (.bool true)))(e:Sl L (Xf ls))(a:VS ls fs):Xu B 24 [.one L,.one lo] (.one (.bool true)):=by
 have k:=H.ln;have i:=a.length;exact nV c e (by omega) d (b:=false) (H.Ju c j d e a a fun g f=>f)
end
end Go.Proofs.YtidginchkjhobaaGreat
namespace Go.Proofs.YtidginchkjhobaaGreat
open Go.Ev Go.Num
section
variable {B:Xs}{o:M'}{w:P'}{h V:Nat}{fs:S'}{lo G:PL}{gs:N'}
theorem QS.iM (m:eo B)(H:QS o w h V fs)(so:TR lo o)(hv:Xu B 50 [.one lo] (.one (.bool true)))(sg:Sl G (Xf gs))(r:VS gs fs)
  {i j:Nat} (b5:i<j) {p q:PL} {f g:Z'} (hp:gs[i]? =some p) (hq:gs[j]? =some q) (u:fs[i]? =some f) (hg:fs[j]? =some g) {s t:Qm} {us vs:Z'} {n k:Nat} {tq Qs:S'} {D C:Nat} (P:xZ o w h fs (s,f,us,0) (t,g,vs,0) n k tq Qs D C) (es:Vz o f=s::us) (et:Vz o g=t::vs):
  ∃xs,(XS B fun E _=>tI E G lo p q i j gs.length xs)/\VS xs (fB fs.length i j s t Qs):=by
 have I:=Zk u;have J:=Zk hg;have b6:j<fs.length:=(Zf.1 hg).1;have a7:=r.length;have ln:=H.ln;obtain⟨p',L,pf⟩:=r.get u;rw[hp]at L;cases L;obtain⟨q',M,pg⟩:=r.get hg;rw[hq]at M;cases M;have hd:=P.hd;have he:=P.he;have hs:XR o f=some s:=hd.ld;have ht:XR o g=some t:=he.ld;have l:=P.ok;have S:=P.S;have l1:=(H.el f I).ln;have l2:=(H.el g J).ln;have a9:=(H.el f I).pl;have b0:=(H.el g J).pl;obtain⟨r0,r1,r2⟩:=uE m so H.o8 H.ol hv pf pg (Pt a9) (Pt b0) (by omega) (by omega) es et l.ht l.t0 l.hs l.s0 l.zt l.zs l.ot l.os l.rt l.rs;have fi:=CO o H.EU;obtain⟨a8,b8,e1,e2,e3⟩:=rn m so H.o8 H.ol hv sg r (fun f u=>⟨Pt (H.EU f u),by have:=(H.el f u).ln;omega⟩) (by omega) (lp:=.Xn r0) (p:=kx (s,f,us,0) (t,g,vs,0)) ⟨_,.Xn,r2⟩ (Pt (gL hd he)) P.pN (by
   have:=jL o fs 0;omega) (fun d hd=>by
   obtain⟨j,hj⟩:=ZB.1 hd;exact(Zf.1 (fi.at_ j d hj)).1) S.prog S.Lm S.Ll S.Lk S.Lj
 rw[S.same]at e2;have b4:=S.iC;obtain⟨n1,a1,d1,b1,c1,c2,ms⟩:=wG m.toStd so H.o8 H.ol pf (by omega) hs;obtain⟨n2,a2,d2,b2,c3,c4,mt⟩:=wG m.toStd so H.o8 H.ol pg (by omega) ht;have U:=ms.1;have t8:=mt.1;have wl:WB w (XJ s.2 t.2)<=200:=P.wl;have v:XD (XJ s.2 t.2):=ez.ok (w:=w) (W:=200) ⟨aB U t8,wl⟩ H.w8 H.wp (by omega);have k1:=rj m.toStd ms mt;have k2:=bC m.toStd v ms (Tu _ _ (U.trans t8.symm));have k3:=bC m.toStd v mt (Tt _ _ (U.trans t8.symm));obtain⟨x,i1,i2⟩:=bw m.toStd c2 l.ht l.t0;obtain⟨y,i3,i4⟩:=bw m.toStd c4 l.hs l.s0;obtain⟨z,i5,i6⟩:=iy m.toStd i4 l.hs.inv;obtain⟨x1,x2,x3,x4,rfl⟩:=i2.len;obtain⟨y1,y2,y3,y4,rfl⟩:=i4.len;obtain⟨z1,z2,z3,z4,rfl⟩:=i6.len;have N:L8 (XQ (XJ s.2 t.2) s.2):=Vy v.1 U;have R:L8 (XQ (XJ s.2 t.2) t.2):=Vy v.1 t8;have mu:XD (XQ (XJ s.2 t.2) s.2):=UG v ms;have mw:XD (XQ (XJ s.2 t.2) t.2):=UG v mt;have u1:=gz m.toStd (i:=i) (n:=gs.length) (a:=.bool x1) (b:=x2) (c:=.bool x3) (d:=x4) N (by omega) (by omega);have u2:=gz m.toStd (i:=j) (n:=gs.length) (a:=.bool z1) (b:=z2) (c:=.bool z3) (d:=z4) R (by omega) (by omega);have Z:∀Q∈Qs,Sz Q/\Q.length<400000:=fun Q hQ=>⟨(S.Kd Q hQ).1,by have:=(S.Kd Q hQ).2;omega⟩
 obtain⟨T,v1,v2⟩:=me m.toStd e2 Z;have b7:=e2.length;have v3:=rH m.toStd (V:=.Xn (Xf a8)) .Xn (by omega) v1;have pU:VS ((List.replicate gs.length .Xq).set i (.Xn [.bool x1::x2::.bool x3::x4::mo (XQ (XJ s.2 t.2) s.2)])) ((List.replicate gs.length []).set i [(s.1⁻¹,XQ (XJ s.2 t.2) s.2)]):=(qT _).set ⟨_,.Xn,.cons (W0.mk i2 mu) .nil⟩ i;have pW:VS ((List.replicate gs.length .Xq).set j (.Xn [.bool z1::z2::.bool z3::z4::mo (XQ (XJ s.2 t.2) t.2)])) ((List.replicate gs.length []).set j [(-t.1⁻¹,XQ (XJ s.2 t.2) t.2)]):=(qT _).set ⟨_,.Xn,.cons (W0.mk i6 mw) .nil⟩ j;have F:∀(i:Nat) (x:Qm),Sq x.1->∀f∈(List.replicate gs.length ([]:Z')).set i [x],Sz f/\f.length<400000:=fun i x hx f u=>by
  rcases List.mem_or_eq_of_mem_set u with h|rfl
  ·rw[(YR.1 h).2];exact⟨Sz.nil,by simp⟩
  ·exact⟨fun y hy=>by rw[ZS.1 hy];exact hx,by simp⟩
 obtain⟨o1,w1,w2⟩:=kh m.toStd pU pW (by simp) (F i _ l.ht.inv) (F j _ l.hs.inv.neg);have Y:∀X∈List.zipWith Wh ((List.replicate gs.length []).set i [(s.1⁻¹,XQ (XJ s.2 t.2) s.2)]) ((List.replicate gs.length []).set j [(-t.1⁻¹,XQ (XJ s.2 t.2) t.2)]),Sz X/\X.length<400000:=fun X hX=>by
  obtain⟨h,e⟩:=ZB.1 hX;obtain⟨A,B',e3,e4,rfl⟩:=vU e;rcases qm e3 with⟨h1,rfl⟩|⟨h1,rfl⟩
  ·rcases qm e4 with⟨h2,rfl⟩|⟨h2,rfl⟩
   ·omega
   ·rw[W9];exact⟨fun y hy=>by rw[ZS.1 hy];exact l.ht.inv,by simp⟩
  ·rw[X6];exact F j _ l.hs.inv.neg B' (Zk e4)
 have b3:∀X∈Qs.map Wu,Sz X/\X.length<400000:=fun X hX=>by
  obtain⟨Q,hQ,rfl⟩:=ZM.1 hX;obtain⟨q1,q2⟩:=Z Q hQ;exact⟨q1.neg,by unfold Wu X1;rw[ZP];exact q2⟩
 obtain⟨o2,w3,w4⟩:=kh m.toStd w2 v2 (by rw[List.length_zipWith,ZL,ZL,ZP,YO,Nat.min_self];omega) Y b3;have w5:=uH m.toStd (O:=.Xn (Xf [.Xn (Xf ((List.replicate gs.length .Xq).set j (.Xn [.bool z1::z2::.bool z3::z4::mo (XQ (XJ s.2 t.2) t.2)]))),.Xn (Xf T)])) (vs:=(List.replicate gs.length .Xq).set i (.Xn [.bool x1::x2::.bool x3::x4::mo (XQ (XJ s.2 t.2) s.2)])) (os:=[.Xn (Xf ((List.replicate gs.length .Xq).set j (.Xn [.bool z1::z2::.bool z3::z4::mo (XQ (XJ s.2 t.2) t.2)]))),.Xn (Xf T)]) (out:=o2) .Xn (by simp;omega) (by simp) ((w1.and w3).mono fun E K ⟨e1,e2⟩=>.cons .Xn e1 (.cons .Xn e2 (.nil _)));rw[a7]at w4;refine⟨o2,?_,w4⟩;exact(r1.Xk.and (e1.Xk.and (c1.Xk.and (c3.Xk.and (k1.Xk.and (k2.Xk.and (k3.Xk.and (i1.Xk.and (i3.Xk.and (u1.Xk.and (i5.Xk.and (u2.Xk.and (v3.Xk.and w5.Xk))))))))))))).mono fun E K ⟨f1,f2,f3,f4,f5,f6,f7,f8,f9,a0,a3,a4,a5,a6⟩=>⟨_,_,_,_,_,_,_,_,_,_,_,_,_,_,_,_,_,_,_,_,_,_,_,_,_,_,_,_,_,_,_,U,t8,v.1,N,R,f1,f2,f3,f4,f5,f6,f7,f8,f9,a0,a3,a4,a5,a6⟩
end
end Go.Proofs.YtidginchkjhobaaGreat
namespace Go.Proofs.YtidginchkjhobaaGreat
open Go.Ev Go.Num
theorem getElem?_lt' {a:Type}{l:List a}{i:Nat}{x:a}(h:l[i]? =some x):i<l.length:=by grind
theorem Km {c:Prop}[Decidable c]{a:Type}(x:List a):(if c then x else[])=x\/(if c then x else[])=[]:=by grind
theorem Ow {n i j:Nat}{s t:Qm}{Qs:S'}(a:Qs.length=n){h:Nat}{X:Z'}(e:(fB n i j s t Qs)[h]? =some X):
  ∃Q,Qs[h]? =some Q/\X=Wh (Wh (if h=i then[(s.1⁻¹,XQ (XJ s.2 t.2) s.2)]else[]) (if h=j then[(-t.1⁻¹,XQ (XJ s.2 t.2) t.2)]else[])) (Wu Q):=by
 unfold fB at e
 grind
theorem gY {n i j:Nat}{s t:Qm}{Qs:S'}(a:Qs.length=n):(fB n i j s t Qs).length=n:=by grind [fB]
theorem gH:∀{A B fs:S'},(∀X∈A,Q8 X)->(∀X∈B,Q8 X)->A.length=B.length->∀c,V6 (List.zipWith Wh A B) fs c=V6 A fs c+V6 B fs c
 |[],[],_,_,_,_,c=>by grind [List.zipWith_nil_left,V6]
 |[],_::_,_,_,_,h,_=>by simp at h
 |_::_,[],_,_,_,h,_=>by simp at h
 |a::A,b::B,[],_,_,_,c=>by grind [V6]
 |a::A,b::B,f::fs,h1,h2,hl,c=>by
  have e:=gH (A:=A) (B:=B) (fs:=fs) (fun X d=>h1 X (Zb _ d)) (fun X d=>h2 X (Zb _ d)) (by simpa using hl) c;simp only[ZC,V6];rw[VC _ _ _ _ (Ze _) (h1 a (Zc ..)) (h2 b (Zc ..)),e];grind
theorem qx:∀{A fs:S'} (b:P'->Rat),V6 (A.map Wu) fs b= -V6 A fs b
 |[],_,b=>by grind [V6]
 |a::A,[],b=>by grind [V6]
 |a::A,f::fs,b=>by
  simp only[Zt,V6];rw[RR,qx];grind
theorem lA {fs:S'}{i:Nat}{f:Z'}(b:fs[i]? =some f)(x:Qm)(a:P'->Rat):V6 ((List.replicate fs.length []).set i [x]) fs a=x.1*X2 f fun k=>a (Xg x.2 k):=by
 have h:=gG (qs:=List.replicate fs.length []) (q:=[]) (q2:=[x]) (i:=i) (by grind) b a
 grind [aV,X2]
section
variable {o:M'}{w:P'}{h V:Nat}{fs:S'}{f g:Z'}{s t:Qm}{us vs:Z'}{n k i j:Nat}{tq Qs:S'}{D C:Nat}
theorem xZ.pX (P:xZ o w h fs (s,f,us,0) (t,g,vs,0) n k tq Qs D C):Pl [((s.1⁻¹:Rat),XQ (XJ s.2 t.2) s.2)]:=dz (QV P.ok.t0) (Vy (aB P.hd.s8 P.he.s8) P.hd.s8)
theorem xZ.pY (P:xZ o w h fs (s,f,us,0) (t,g,vs,0) n k tq Qs D C):Pl [((-t.1⁻¹:Rat),XQ (XJ s.2 t.2) t.2)]:=dz (fun e=>QV P.ok.s0 (by grind)) (Vy (aB P.hd.s8 P.he.s8) P.he.s8)
theorem xZ.pQ (P:xZ o w h fs (s,f,us,0) (t,g,vs,0) n k tq Qs D C)(H:QS o w h V fs):∀Q∈Qs,Pl Q:=fun Q b=>by
 obtain⟨i,e⟩:=ZB.1 b;have a:i<fs.length:=by rw[<-P.S.iC];exact getElem?_lt' e
 obtain⟨⟨c,m,A,F,-⟩,-⟩:=H.el _ (YS a);exact(P.S.up i Q _ _ e (Zg a) F.ld).1
theorem RF {c:Prop}[Decidable c]{x:Z'}(a:Pl x):Pl (if c then x else[]):=by grind [Pl.nil]
theorem xZ.zero (P:xZ o w h fs (s,f,us,0) (t,g,vs,0) n k tq Qs D C)(H:QS o w h V fs)(p:fs[i]? =some f)(q:fs[j]? =some g)(c:P'->Rat):V6 (fB fs.length i j s t Qs) fs c=0:=by
 have b:∀(i:Nat) (x:Qm),Pl [x]->∀X∈(List.replicate fs.length ([]:Z')).set i [x],Q8 X:=fun i x r X a=>by
  rcases List.mem_or_eq_of_mem_set a with e|e
  ·rw[(YR.1 e).2];exact fun _ h=>by cases h
  ·rw[e];exact r.q8
 have d:=b i _ P.pX;have l:=b j _ P.pY;unfold fB;rw[gH (fun X a=>by
  obtain⟨h,e⟩:=ZB.1 a;obtain⟨A,B,u,v,rfl⟩:=vU e
  grind [RQ]) (fun X a=>by
  obtain⟨Q,m,rfl⟩:=ZM.1 a;exact(VH (P.pQ H Q m)).q8) (by
  rw[List.length_zipWith,ZL,ZL,ZP,YO,P.S.iC,Nat.min_self]),gH d l (by simp),lA p,lA q,qx,<-P.sum c,nN c P.hd P.he]
 grind
structure F0 (w:P')(h:Nat)(fs:S')(W:Nat)(L:S'):Prop where
 len:L.length=fs.length
 pl:∀X∈L,Pl X
 ln:∀X∈L,X.length<=212
 fr:∃D M,0<D/\D<=M/\2*M<=32^(214*h+3)/\∀X∈L,VQ D M X
 mm:∀(i:Nat) (X f:Z'),L[i]? =some X->fs[i]? =some f->∀u∈X,∀v∈f,ez w W (Xg u.2 v.2)
theorem xZ.vec (P:xZ o w h fs (s,f,us,0) (t,g,vs,0) n k tq Qs D C)(H:QS o w h V fs)(hf:fs[i]? =some f)(hg:fs[j]? =some g)(a0:i≠j):F0 w h fs (WB w (XJ s.2 t.2)) (fB fs.length i j s t Qs):=by
 have l8:L8 (XJ s.2 t.2):=aB P.hd.s8 P.he.s8;have s8:L8 s.2:=P.hd.s8;have t8:L8 t.2:=P.he.s8;have a1:Xg (XQ (XJ s.2 t.2) s.2) s.2=XJ s.2 t.2:=by grind [XW,W6,Tu]
 have a2:Xg (XQ (XJ s.2 t.2) t.2) t.2=XJ s.2 t.2:=by grind [XW,W6,Tt]
 have hs:XR o f=some s:=P.hd.ld;have ht:XR o g=some t:=P.he.ld;have pl:∀{b:Nat} {X:Z'},(fB fs.length i j s t Qs)[b]? =some X->Pl X:=fun{b X} e=>by
  obtain⟨Q,d,rfl⟩:=Ow P.S.iC e;exact((RF P.pX).add (RF P.pY)).add (VH (P.pQ H Q (Zk d)))
 refine⟨gY P.S.iC,fun X B=> ?_,fun X B=> ?_,?_,fun b X p e q u hu v hv=> ?_⟩
 ·grind [ZB]
 ·obtain⟨b,e⟩:=ZB.1 B;obtain⟨Q,d,rfl⟩:=Ow P.S.iC e;have q1:=P.Lo Q (Zk d);have n1:(Wu Q).length=Q.length:=by grind [Wu,X1]
  have b1:=UO _ (Wh (if b=i then[(s.1⁻¹,XQ (XJ s.2 t.2) s.2)]else[]) (if b=j then[(-t.1⁻¹,XQ (XJ s.2 t.2) t.2)]else[])) (Wu Q) (Ze _);have b2:=UO _ (if b=i then[((s.1⁻¹:Rat),XQ (XJ s.2 t.2) s.2)]else[]) (if b=j then[((-t.1⁻¹:Rat),XQ (XJ s.2 t.2) t.2)]else[]) (Ze _)
  grind
 ·
  obtain⟨⟨lc,m,A,F,hA⟩,-⟩:=H.el f (Zk hf);obtain⟨⟨W,m',c,Y,R⟩,-⟩:=H.el g (Zk hg);have es:s=(lc,m):=by have:=F.ld;grind
  have et:t=(W,m'):=by have:=Y.ld;grind
  obtain⟨E,e1,e2,e3,-⟩:=F.cf;obtain⟨a,J,l,K,-⟩:=Y.cf;have N:Fr E A s.1⁻¹:=by rw[es];exact e3
  have O:Fr a c t.1⁻¹:=by rw[et];exact K
  have D0:=P.D0;have DC:=P.DC;have I:=P.Ly;refine⟨D*(E*a),3*(C*(A*c)),Yi D0 (Yi e1 J),?_,?_,fun X B=> ?_⟩
  ·have h1:D*(E*a)<=C*(A*c):=ZT DC (ZT e2 l);omega
  ·have h1:2*C*(2*A*(2*c))<=32^(212*h+1)*(32^h*32^h):=ZT I (ZT hA R);rw[<-Yu,<-Yu]at h1
   grind
  ·obtain⟨b,e⟩:=ZB.1 B;obtain⟨Q,d,rfl⟩:=Ow P.S.iC e;have G:=P.pQ H Q (Zk d);have x1:Fr (D*(E*a)) (C*(A*c)) s.1⁻¹:=by
    have:=Fr.scale (E:=D*a) N;rw[Nat.mul_left_comm D E a];exact this.mono (by simp_all [Nat.mul_left_comm,ZT])
   have x2:Fr (D*(E*a)) (C*(A*c)) (-t.1⁻¹):=by
    have:=Fr.neg (Fr.scale (E:=D*E) O);rw[show D*(E*a)=a*(D*E)by grind];exact this.mono (by rw[ZR c,Z3];simp_all [ZT])
   have x3:VQ (D*(E*a)) (C*(A*c)) (Wu Q):=(VQ.Wu ((P.fr Q (Zk d)).scale (E*a))).mono (Yb _ (ZT e2 l));have y1:VQ (D*(E*a)) (C*(A*c)) (if b=i then[(s.1⁻¹,XQ (XJ s.2 t.2) s.2)]else[]):=fun x z=>by
    grind
   have y2:VQ (D*(E*a)) (C*(A*c)) (if b=j then[(-t.1⁻¹,XQ (XJ s.2 t.2) t.2)]else[]):=fun x z=>by
    grind
   exact(VQ.Wh ((RF P.pX).add (RF P.pY)).q8 (VH G).q8 (VQ.Wh (RF P.pX).q8 (RF P.pY).q8 y1 y2) x3).mono (by omega)
 ·obtain⟨Q,d,rfl⟩:=Ow P.S.iC e;have M:=Zk q;have G:=P.pQ H Q (Zk d);have pf:=H.EU p M;obtain⟨r,T⟩:∃r,XR o p=some r:=by
   obtain⟨⟨_,_,_,F,_⟩,_⟩:=H.el p M;exact⟨_,F.ld⟩
  have r8:L8 r.2:=(XK pf T).2.1;have a3:=((H.el p M).wl r T).2.2 v hv;have v8:=pf.q8 v hv;have key:ez w (WB w (XJ s.2 t.2)) (Xg u.2 r.2)/\L8 u.2:=by
   have u8:=(((RF P.pX).add (RF P.pY)).add (VH G)).q8 u hu;refine⟨?_,u8⟩;rcases Vj _ (Ze _) ((RF P.pX).add (RF P.pY)).q8 (VH G).q8 hu with⟨y,U,Z⟩|⟨y,U,Z⟩
   ·rcases Vj _ (Ze _) (RF P.pX).q8 (RF P.pY).q8 U with⟨x,z,L⟩|⟨x,z,L⟩
    ·grind
    grind
   ·obtain⟨x,z,L,-⟩:=Ph U;rw[<-Z,L];exact(fV H.w8 H.wp ((P.S.up b Q p r d q T).2 x z).1).1
  grind [W1,Vr]
end
end Go.Proofs.YtidginchkjhobaaGreat
namespace Go.Proofs.YtidginchkjhobaaGreat
open Go.Ev Go.Num
theorem iN {B:Xs}(f:Std B){m n q:P'}{b c c3 c4 e1 e2 d e:PL}(i:m.length=8)(j:n.length=8)(k:q.length=8)(g:Xu B 137 [.agg [b,c,c3,c4]] (.X9 [.agg [e1,e2,d,e],.one (LA 0)]))(h:Xu B 136 [.agg (mo m),.agg (mo n)] (.X9 [.agg (mo q),.one (.bool true)])):
  Xu B 110 [.agg (mo m),.agg (b::c::c3::c4::mo n)] (.agg (e1::e2::d::e::mo q)):=by
 refine Xu.of (f.Wa _ _ rfl) ((g.Xk.and (h.Xk.and f.Xk)).mono fun E K ⟨l,x2,a⟩=> ?_);obtain⟨o,p,m2,r,s,t,u,v,rfl⟩:=eight i;obtain⟨w,x,y,z,A,C,D,F,rfl⟩:=eight j;obtain⟨G,H,I,J,L,M,N,O,rfl⟩:=eight k;simp only[mo,Zt,ZN]at x2⊢;simp(decide:=true)only[Xo,Xr,Vx,reduceIte,Nat.reduceAdd,x110,a,X4,l,x2]
abbrev Jp (L i j:DV)(v n k:Nat):List (Nat×DV):=[(0,L),(1,i),(2,j),(9,.one (.ptr 0 0 0 0)),(11,.one (.ptr 1 0 0 0)),(13,.one (.ptr 2 0 0 0)),(16,.one (.ptr 3 0 0 0)),(17,.one (.own 4 v 0 n)),(18,LB k)]
abbrev Ke:P':=[0,1,2,9,11,13,16,17,18]
theorem Bm {E:Xa}{K k i:Nat}(d:E.mode=md){L lr q x w1 f g j:PL}{gs a o:N'}{I J:DV}(A:Sl L (Xf gs))(e:a[i]? =some q)(w:a.length=gs.length)(C:gs.length<1000000)(D:o.length<1000000){v:Nat}{b0 b1 b2:Xx}
  (s:E.pure 18 [.one (.int .i64 (.negSucc 0))]=some (.agg [w1,f,g,j])) (t:E.pure 17 [.agg [w1,f,g,j],.one q]=some (.one x)) (G:V'):
  ∃l,Xb E K 0 Ke x56_1 (k+1) ⟨Jp (.one (.p L)) I J v o.length i,b0::b1::b2::xy (.Xn (Xf a)) lr::Oh v o::G⟩=Xb E K 0 Ke x56_1 k ⟨Jp (.one (.p L)) I J (v+1) (o++[x]).length (i+1),b0::b1::b2::xy (.Xn (Xf a)) lr::Oh (v+1) (o++[x])::l⟩:=by
 have c:i<gs.length:=by rw[<-w];exact(Zf.mp e).1
 have y:=fun(u:HF) (z:IntKind)=>(Sl.Xn:Sl (.Xn (Xf a)) (Xf a)).idx (h:=u) (k:=z) (sz:=1) (XY e) rfl
 have b:=A.len;rw[Xt]at b;have m:Xe .i64 (.ofNat (i+1))=.ofNat (i+1):=wrap_i64 (by omega);have n:(o.length+1)*24<=lim:=by unfold lim;omega
 have r:o.length+1<=9223372036854775807:=by omega
 have B:Oh (v+1) (o++[x])=⟨false,v+1,1,pc (Xf o)++[[.p x]],false,33⟩:=by simp[Oh,Xf,pc]
 rw[B,Zm,ZO];apply Exists.intro;rw[Xb];simp(decide:=true)only[Xo,Xr,VR,Vx,kT,reduceIte,Nat.reduceEqDiff,Nat.reduceLeDiff,Nat.reduceAdd,x56_1,d,X4,b,c,y,s,t,m,n,r,Wm,Xt];rfl
theorem Jo {E:Xa}{K:Nat}(r:E.mode=md){L lr w1 w y z:PL}{gs b:N'}{I J:DV}(u:Sl L (Xf gs))(N:b.length=gs.length)(M:gs.length<1000000){b0 b1 b2:Xx}(D:E.pure 18 [.one (.int .i64 (.negSucc 0))]=some (.agg [w1,w,y,z]))
  {rest c:N'} (h:XB (fun q x=>E.pure 17 [.agg [w1,w,y,z],.one q]=some (.one x)) rest c):∀(i k v:Nat) (o:N') (G:V'),b.drop i=rest->i+rest.length=b.length->o.length=i->rest.length<k->
  ∃a j l,Xb E K 0 Ke x56_1 k ⟨Jp (.one (.p L)) I J v o.length i,b0::b1::b2::xy (.Xn (Xf b)) lr::Oh v o::G⟩=some (.exit 0,⟨a,b0::b1::b2::xy (.Xn (Xf b)) lr::Oh j (o++c)::l⟩)/\
   Xh a 1=some I/\Xh a 2=some J/\Xh a 9=some (.one (.ptr 0 0 0 0))/\Xh a 11=some (.one (.ptr 1 0 0 0))/\Xh a 13=some (.one (.ptr 2 0 0 0))/\Xh a 17=some (.one (.own 4 j 0 (o++c).length)):=by
 induction h with
 |nil=>
  intro i k v o G _ m O t;obtain⟨k,rfl⟩:∃s,k=s+1:=⟨k-1,by omega⟩;simp only[Zr,Z0]at m;have d:=u.len;rw[Xt]at d;have n:i=gs.length:=by omega
  rw[ZE];have :∃a,Xb E K 0 Ke x56_1 (k+1) ⟨Jp (.one (.p L)) I J v o.length i,b0::b1::b2::xy (.Xn (Xf b)) lr::Oh v o::G⟩=some (.exit 0,⟨a,b0::b1::b2::xy (.Xn (Xf b)) lr::Oh v o::G⟩)/\Xh a 1=some I/\Xh a 2=some J/\Xh a 9=some (.one (.ptr 0 0 0 0))/\Xh a 11=some (.one (.ptr 1 0 0 0))/\Xh a 13=some (.one (.ptr 2 0 0 0))/\Xh a 17=some (.one (.own 4 v 0 o.length)):=by
   apply VO
   ·rw[Xb];simp only[Xo,Xr,reduceIte,Nat.reduceEqDiff,x56_1,d,n,Zv];rfl
   ·simp only[Xo,reduceIte,Nat.reduceEqDiff,and_self]
  obtain⟨a,f,g⟩:=this;exact⟨a,v,G,f,g⟩
 |@cons q x rest c F h P=>
  intro i k v o G H m O t;obtain⟨k,rfl⟩:∃s,k=s+1:=⟨k-1,by omega⟩;simp only[Zi]at m t;obtain⟨C,B⟩:=Xi H;obtain⟨A,e⟩:=Bm (K:=K) (k:=k) (I:=I) (J:=J) (lr:=lr) (b0:=b0) (b1:=b1) (b2:=b2) r u C N M (o:=o) (by omega) (v:=v) D F G;rw[e];obtain⟨a,j,l,f,g⟩:=P (i+1) k (v+1) (o++[x]) A B (by omega) (by simp;omega) (by omega);rw[Zq]at f g;exact⟨a,j,l,f,g⟩
structure Lv (E:Xa)(G lo p q:PL)(i j:Nat)(gs xs:N')(a b:I'):Prop where
 ex:∃s lqs lr w1 w2 w3 w4 a1 a2 a3 a4 b1 b2 b3 b4 x1 x2 x3 x4 y1 y2 y3 y4 c d m m' l u w,m.length=8/\m'.length=8/\l.length=8/\u.length=8/\w.length=8/\lqs.length=gs.length/\
  E.pure 107 [.one p,.one lo]=some (.X9 [.agg (a1::a2::a3::a4::mo m),.one (.bool true)])/\
  E.pure 107 [.one q,.one lo]=some (.X9 [.agg (b1::b2::b3::b4::mo m'),.one (.bool true)])/\
  E.pure 108 [.agg (mo m),.agg (mo m')]=some (.agg (mo l))/\
  E.pure 58 [.one p,.one q,.one lo]=some (.X9 [.one s,.one (LA 0)])/\
  E.pure 109 [.one s,.one G,.one lo]=some (.agg [.Xn (Xf lqs),lr,LA 0])/\
  E.pure 18 [.one (.int .i64 (.negSucc 0))]=some (.agg [w1,w2,w3,w4])/\
  XB (fun q x=>E.pure 17 [.agg [w1,w2,w3,w4],.one q]=some (.one x)) lqs xs/\
  E.pure 110 [.agg (mo l),.agg (a1::a2::a3::a4::mo m)]=some (.agg (x1::x2::x3::x4::mo u))/\
  E.pure 110 [.agg (mo l),.agg (b1::b2::b3::b4::mo m')]=some (.agg (y1::y2::y3::y4::mo w))/\
  xs[i]? =some c/\E.pure 10 [.one c,.one (.Xn [x1::x2::x3::x4::mo u])]=some (.one (.Xn a))/\
  (xs.set i (.Xn a))[j]? =some d/\E.pure 12 [.one d,.one (.Xn [y1::y2::y3::y4::mo w])]=some (.one (.Xn b))
theorem Bo {B:Xs}(U:Std B){G lo p q:PL}{a b:I'}{i j:Nat}{gs xs:N'}(r:Sl G (Xf gs))(V:gs[i]? =some p)(W:gs[j]? =some q)(hg:gs.length<1000000)(h:XS B fun E _=>Lv E G lo p q i j gs xs a b):
  Xu B 56 [.one G,.one (LA i),.one (LA j),.one lo] (.one (.Xn (Xf ((xs.set i (.Xn a)).set j (.Xn b))))):=by
 refine Xu.of (U.Wa _ _ rfl) ((h.and (U.Xk.and (XS.ge (gs.length+1)))).mono fun E K ⟨e0,n,hK⟩=> ?_);obtain⟨s,a7,Y,w1,w2,w3,w4,Z,a2,a3,a4,M,N,b3,b4,x1,x2,x3,x4,y1,y2,y3,y4,c,d,m,m',l,u,w,m8,D,l8,u8,w8,hl,O,P,Q,h4,h5,h6,R,S,T,t,e,v,f⟩:=e0.ex;have a6:=R.length;have a0:i<gs.length:=(Zf.1 V).1;have a5:j<gs.length:=(Zf.1 W).1;have iq:=fun(x:HF) (C:IntKind)=>r.idx (h:=x) (k:=C) (sz:=1) (XY V) rfl
 have jq:=fun(x:HF) (C:IntKind)=>r.idx (h:=x) (k:=C) (sz:=1) (XY W) rfl
 have g:=r.len;rw[Xt]at g;obtain⟨c0,c1,c2,c3,c4,c5,c6,c7,rfl⟩:=eight m8;obtain⟨d0,d1,d2,d3,d4,d5,d6,d7,rfl⟩:=eight D;obtain⟨r0,r1,r2,r3,r4,r5,r6,r7,rfl⟩:=eight l8;obtain⟨f0,f1,f2,f3,f4,f5,f6,f7,rfl⟩:=eight u8;obtain⟨g0,g1,g2,g3,g4,g5,g6,g7,rfl⟩:=eight w8;simp only[mo,Zt,ZN]at O P Q S T e f;obtain⟨T',v',G',X,t1,t2,t9,H,L,o⟩:=Jo (K:=K) (I:=LB i) (J:=LB j) (lr:=Y) (b0:=⟨false,0,12,[[.p Z,.p a2,.p a3,.p a4,.p (LA c0),.p (LA c1),.p (LA c2),.p (LA c3),.p (LA c4),.p (LA c5),.p (LA c6),.p (LA c7)]],false,75⟩) (b1:=⟨false,0,12,[[.p M,.p N,.p b3,.p b4,.p (LA d0),.p (LA d1),.p (LA d2),.p (LA d3),.p (LA d4),.p (LA d5),.p (LA d6),.p (LA d7)]],false,75⟩) (b2:=⟨false,0,8,[[.p (LA r0),.p (LA r1),.p (LA r2),.p (LA r3),.p (LA r4),.p (LA r5),.p (LA r6),.p (LA r7)]],false,73⟩) n r hl hg h6 R 0 K 0 [] [] rfl (by omega) rfl (by omega);have A:pc (Xf [])=[]:=rfl;simp only[Jp,Oh,A,ZF,Zr]at X o;have gc:=N8 t;have gd:=N8 v;have y:i<xs.length:=by omega
 have z:j<xs.length:=by omega
 have ht:(pc (Xf ((xs.set i (.Xn a)).set j (.Xn b)))).take xs.length=pc (Xf ((xs.set i (.Xn a)).set j (.Xn b))):=WV (Xf _) (by rw[Xt];simp);have F:∀es:I',(PL.Xn es).scalar=false:=fun _=>rfl
 have hf:=fun h=>Ve 5 h (Xf ((xs.set i (.Xn a)).set j (.Xn b)))
 simp(decide:=true)only[Xo,Xr,VR,Vx,kT,reduceIte,Nat.reduceEqDiff,Nat.reduceLeDiff,Nat.reduceAdd,x56,n,X4,iq,jq,O,P,Q,h4,h5,S,T,e,f,X,t1,t2,t9,H,L,o,gc,gd,gx,y,z,ht,hf,F,Wm,Xt,ZL,Ze]
abbrev nI (n:Nat):PL:=LA n
inductive Gy (E:Xa)(L lo:PL)(i n:Nat):Nat->I'->Prop
 |nil:Gy E L lo i n n []
 |cons {j:Nat} {xs:N'} {xss:I'} (hj:j<n) (h:E.pure 56 [.one L,.one (nI i),.one (nI j),.one lo]=some (.one (.Xn (Xf xs)))) (t:Gy E L lo i n (j+1) xss):Gy E L lo i n j (xs::xss)
inductive IQ (E:Xa)(L lo:PL)(n:Nat):Nat->I'->Prop
 |nil:IQ E L lo n n []
 |cons {i:Nat} {x1 x2:I'} (hi:i<n) (h:Gy E L lo i n (i+1) x1) (t:IQ E L lo n (i+1) x2):IQ E L lo n i (x1++x2)
theorem Gy.len {E:Xa}{L lo:PL}{i n j:Nat}{a:I'}(h:Gy E L lo i n j a):a.length+j=n:=by
 induction h with
 |nil=>simp
 |cons _ _ _ b=>simp only[Zi];omega
abbrev Jm (L lo:PL)(v n i j:Nat):List (Nat×DV):=[(0,.one (.p L)),(1,.one (.p lo)),(7,.one (.own 0 v 0 n)),(8,LB i),(9,LB j)]
abbrev Ha (L lo:PL)(v n i:Nat):List (Nat×DV):=[(0,.one (.p L)),(1,.one (.p lo)),(7,.one (.own 0 v 0 n)),(8,LB i)]
theorem Bl {E:Xa}{K k i j:Nat}(b:E.mode=md){L lo:PL}{gs xs o:N'}(l:Sl L (Xf gs))(h:j<gs.length)(n:gs.length<1000000)(q:o.length<1000000){v:Nat}(g:E.pure 56 [.one L,.one (nI i),.one (nI j),.one lo]=some (.one (.Xn (Xf xs))))(G:V'):
  ∃c,Xb E K 0 [0,1,7,8,9] x20_1 (k+1) ⟨Jm L lo v o.length i j,nP v o::G⟩=Xb E K 0 [0,1,7,8,9] x20_1 k ⟨Jm L lo (v+1) (o++[PL.Xn (Xf xs)]).length i (j+1),nP (v+1) (o++[PL.Xn (Xf xs)])::c⟩:=by
 have a:=l.len;rw[Xt]at a;have d:Xe .i64 (.ofNat (j+1))=.ofNat (j+1):=wrap_i64 (by omega);have e:(o.length+1)*24<=lim:=by unfold lim;omega
 have f:o.length+1<=9223372036854775807:=by omega
 have m:nP (v+1) (o++[PL.Xn (Xf xs)])=⟨false,v+1,1,pc (Xf o)++[[.p (.Xn (Xf xs))]],false,30⟩:=by simp[nP,Xf,pc]
 rw[m,Zm,ZO];apply Exists.intro;rw[Xb];simp(decide:=true)only[Xo,Xr,VR,Vx,kT,reduceIte,x20_1,b,X4,a,h,g,d,e,f,Wm,Xt];rfl
theorem Jl {E:Xa}{K:Nat}(m:E.mode=md){L lo:PL}{gs:N'}(t:Sl L (Xf gs))(z:gs.length<1000){i n j:Nat}(x:n=gs.length){b:I'}(h:Gy E L lo i n j b):∀(k v:Nat) (o:N') (G:V'),o.length+b.length<1000000->b.length<k->
  ∃a g l,Xb E K 0 [0,1,7,8,9] x20_1 k ⟨Jm L lo v o.length i j,nP v o::G⟩=some (.exit 2,⟨a,nP g (o++ON b)::l⟩)/\Xh a 0=some (.one (.p L))/\Xh a 1=some (.one (.p lo))/\Xh a 7=some (.one (.own 0 g 0 (o++ON b).length))/\Xh a 8=some (LB i):=by
 induction h with
 |nil=>
  intro k v o G s r;obtain⟨k,rfl⟩:∃q,k=q+1:=⟨k-1,by omega⟩;have c:=t.len;rw[Xt]at c;rw[show ON []=[]from rfl,ZE];have :∃a,Xb E K 0 [0,1,7,8,9] x20_1 (k+1) ⟨Jm L lo v o.length i n,nP v o::G⟩=some (.exit 2,⟨a,nP v o::G⟩)/\Xh a 0=some (.one (.p L))/\Xh a 1=some (.one (.p lo))/\Xh a 7=some (.one (.own 0 v 0 o.length))/\Xh a 8=some (LB i):=by
   apply VO
   ·rw[Xb];simp only[Xo,Xr,reduceIte,Nat.reduceEqDiff,x20_1,c,x,Zv];rfl
   ·simp only[Xo,reduceIte,Nat.reduceEqDiff,and_self]
  obtain⟨a,d,f⟩:=this;exact⟨a,v,G,d,f⟩
 |@cons j xs b A w h y=>
  intro k v o G s r;obtain⟨k,rfl⟩:∃q,k=q+1:=⟨k-1,by omega⟩;simp only[Zi]at s r;obtain⟨u,e⟩:=Bl (K:=K) (k:=k) m t (by omega) (by omega) (o:=o) (by omega) (v:=v) w G;rw[e];obtain⟨a,g,l,d,f⟩:=y k (v+1) (o++[PL.Xn (Xf xs)]) u (by simp only[Zm,Zi,Zr];omega) (by omega);rw[Zq]at d f;exact⟨a,g,l,d,f⟩
theorem G9 {E:Xa}{K:Nat}(l:E.mode=md){L lo:PL}{gs:N'}(p:Sl L (Xf gs))(A:gs.length<1000)(J:gs.length<K){i n:Nat}(r:n=gs.length){c:I'}(h:IQ E L lo n i c):∀(k v:Nat) (o:N') (G:V'),o.length+(n-i)*1000<1000000->n<k+i->
  ∃b e f,Xb E K 0 [0,1,7,8] x20_2 k ⟨Ha L lo v o.length i,nP v o::G⟩=some (.exit 0,⟨b,nP e (o++ON c)::f⟩)/\Xh b 7=some (.one (.own 0 e 0 (o++ON c).length)):=by
 induction h with
 |nil=>
  intro k v o G C B;obtain⟨k,rfl⟩:∃m,k=m+1:=⟨k-1,by omega⟩;have a:=p.len;rw[Xt]at a;rw[show ON []=[]from rfl,ZE];have :∃b,Xb E K 0 [0,1,7,8] x20_2 (k+1) ⟨Ha L lo v o.length n,nP v o::G⟩=some (.exit 0,⟨b,nP v o::G⟩)/\Xh b 7=some (.one (.own 0 v 0 o.length)):=by
   apply VO
   ·rw[Xb];simp only[Xo,Xr,reduceIte,Nat.reduceEqDiff,x20_2,a,r,Zv];rfl
   ·simp only[Xo,reduceIte,Nat.reduceEqDiff]
  obtain⟨b,d,g⟩:=this;exact⟨b,v,G,d,g⟩
 |@cons i H x2 M q h D=>
  intro k v o G C B;obtain⟨k,rfl⟩:∃m,k=m+1:=⟨k-1,by omega⟩;have N:=q.len;obtain⟨I,F,u,d,g,x,y,z⟩:=Jl (K:=K) l p A r q K v o G (by omega) (by omega);obtain⟨b,e,f,s,t⟩:=D k F (o++ON H) u (by simp only[Zm,ZP];omega) (by omega);rw[Zq,<-List.map_append]at s t;have a:=p.len;rw[Xt]at a;have j:i<gs.length:=by omega
  have w:Xe .i64 (.ofNat (i+1))=.ofNat (i+1):=wrap_i64 (by omega);simp only[Jm,nP]at d;refine⟨b,e,f,?_,t⟩;rw[Xb];simp(decide:=true)only[Xo,Xr,reduceIte,x20_2,a,j,d,g,x,y,z,w];exact s
theorem yw {B:Xs}(o:Std B){L:PL}{ls:N'}{fs:S'}(s:Sl L (Xf ls))(M:ls.length<100000)(q:VS ls fs)(l:∀f∈fs,f≠[]):Xu B 106 [.one L] (.one (.bool false)):=by
 have a:=s.len;rw[Xt]at a;have w:=q.length;refine Xu.of (o.Wa _ _ rfl) ((o.Xk.and (XS.ge (ls.length+1))).mono fun E K ⟨z,J⟩=> ?_);have u:∀(d i k:Nat),i+d=ls.length->d<k->∃b,Xb E K 0 [0,3] x106_1 k ⟨[(0,.one (.p L)),(3,LB i)],[]⟩=some (.exit 0,⟨b,[]⟩):=by
  intro d;induction d with
  |zero=>
   intro i k e y;obtain⟨k,rfl⟩:∃m,k=m+1:=⟨k-1,by omega⟩;simp only[Z0]at e;subst e;apply Exists.intro;rw[Xb];simp only[Xo,Xr,reduceIte,Nat.reduceEqDiff,x106_1,a,Zv];rfl
  |succ d C=>
   intro i k e y;obtain⟨k,rfl⟩:∃m,k=m+1:=⟨k-1,by omega⟩;have j:i<ls.length:=by omega
   have c:fs[i]? =some (fs[i]'(by omega)):=Zg (by omega);obtain⟨p,A,G⟩:=q.get c;obtain⟨I,H,v⟩:=G;have n:=H.len;rw[v.length]at n;have r:¬(fs[i]'(by omega)).length=0:=fun h=>l _ (YS _) (Ye h)
   have D:=fun(x:HF) (F:IntKind)=>s.idx (h:=x) (k:=F) (sz:=1) (XY A) rfl
   have t:Xe .i64 (.ofNat (i+1))=.ofNat (i+1):=wrap_i64 (by omega);generalize (fs[i]'(by omega)).length=N at n r;obtain⟨b,g⟩:=C (i+1) k (by omega) (by omega);refine⟨b,?_⟩;rw[Xb];simp(decide:=true)only[Xo,Xr,reduceIte,x106_1,j,a,D,n,r,t];exact g
 obtain⟨b,g⟩:=u ls.length 0 K (by omega) (by omega);simp(decide:=true)only[Xo,Xr,reduceIte,x106,g]
theorem uq {B:Xs}(b:Std B){L lo:PL}(e:Xu B 22 [.one lo] (.one (.bool true)))(f:Xu B 106 [.one L] (.one (.bool false)))(d:Xu B 24 [.one L,.one lo] (.one (.bool true))):Xu B 55 [.one L,.one lo] (.one (LA 0)):=by
 refine Xu.of (b.Wa _ _ rfl) ((e.Xk.and (f.Xk.and (d.Xk.and b.Xk))).mono fun E K ⟨e1,e2,c,a⟩=> ?_);simp(decide:=true)only[Xo,Xr,Vx,reduceIte,Nat.reduceAdd,x55,a,X4,e1,e2,c]
theorem kH {B:Xs}(f:Std B){L lo:PL}{gs:N'}{a:I'}(l:Sl L (Xf gs))(p:gs.length<900)(k:Xu B 55 [.one L,.one lo] (.one (LA 0)))(h:XS B fun E _=>IQ E L lo gs.length 0 a):Xu B 20 [.one L,.one lo] (.X9 [.one (.Xn (Xf (ON a))),.one (LA 0)]):=by
 refine Xu.of (f.Wa _ _ rfl) ((h.and (k.Xk.and (f.Xk.and (XS.ge (gs.length+1))))).mono fun E K ⟨g,e1,b,o⟩=> ?_);obtain⟨n,q,m,d,e⟩:=G9 (K:=K) b l (by omega) (by omega) rfl g K 0 [] [] (by simp only[Zr];omega) (by omega);have c:pc (Xf [])=[]:=rfl;simp only[Ha,nP,c,ZF,Zr]at d e;have j:(pc (Xf (ON a))).take (ON a).length=pc (Xf (ON a)):=WV (Xf (ON a)) (by rw[Xt];exact Ze _);have i:=fun h=>Ve 5 h (Xf (ON a))
 simp(decide:=true)only[Xo,Xr,Vx,reduceIte,Nat.reduceAdd,x20,b,X4,e1,d,e,j,i,Wm,Xt,Ze]
theorem rB (Q:Z'):(Wu Q).length=Q.length:=by unfold Wu X1;rw[ZP]
theorem qM {B:Xs}(b:Std B){c:N'}(d:Ri c (-1)):∀{vs:N'} {fs:S'},VS vs fs->(∀f∈fs,Sz f/\f.length<400000)->∃a,(XS B fun E _=>XB (fun q x=>E.pure 17 [.agg c,.one q]=some (.one x)) vs a)/\VS a (fs.map Wu)
 |[],[],.nil,_=>⟨[],XS.of fun _ _=>.nil,.nil⟩
 |p::vs,f::fs,.cons hp h,h1=>by
  obtain⟨a,k,l⟩:=qM b d h fun f j=>h1 f (Zb _ j)
  obtain⟨g,n⟩:=h1 f (Zc ..);obtain⟨r,m,e⟩:=Oz b (z:= -1) d nM hp g (by omega);rw[if_neg (by decide)]at e;exact⟨r::a,(k.and m.Xk).mono fun E K ⟨i,e1⟩=>.cons e1 i,.cons e l⟩
theorem j8 {x y:Z'}(a:Pl x)(b:Pl y):Wh x y=Wh y x:=Om.ext (a.add b).dc (b.add a).dc fun m=>by
 rw[Wo,Wo,VC _ _ _ _ (Ze _) a.q8 b.q8,VC _ _ _ _ (Ze _) b.q8 a.q8];grind
theorem Ep {n i j:Nat}{s t:Qm}{Qs:S'}(f:Qs.length=n)(b:i≠j){g k:Z'}(m:Qs[i]? =some g)(o:Qs[j]? =some k)(p:∀Q∈Qs,Pl Q)(u:Pl [((s.1⁻¹:Rat),XQ (XJ s.2 t.2) s.2)])(v:Pl [((-t.1⁻¹:Rat),XQ (XJ s.2 t.2) t.2)]):
  ((Qs.map Wu).set i (Wh (Wu g) [(s.1⁻¹,XQ (XJ s.2 t.2) s.2)])).set j (Wh (Wu k) (Wu [(t.1⁻¹,XQ (XJ s.2 t.2) t.2)]))=fB n i j s t Qs:=by
 have r:Wu [((t.1⁻¹:Rat),XQ (XJ s.2 t.2) t.2)]=[(-t.1⁻¹,XQ (XJ s.2 t.2) t.2)]:=by
  unfold Wu X1;simp only[Zt,ZN];rw[show(-1:Rat)*t.1⁻¹= -t.1⁻¹ by grind]
 apply List.ext_getElem?;intro h;by_cases q:h<n
 ·obtain⟨X,l⟩:∃X,(fB n i j s t Qs)[h]? =some X:=⟨_,Zg (by rw[gY f];exact q)⟩;obtain⟨Q,a,e⟩:=Ow f l;rw[l,e];by_cases c:j=h
  ·subst c;rw[o]at a;cases a;rw[Yv (by rw[ZL,ZP];omega),r,if_neg (fun e=>b e.symm),if_pos rfl,X6,j8 (VH (p _ (Zk o))) v]
  ·rw[ZK c];by_cases d:i=h
   ·subst d;rw[m]at a;cases a;rw[Yv (by rw[ZP];omega),if_pos rfl,if_neg b,W9,j8 (VH (p _ (Zk m))) u]
   ·rw[ZK d,ZD,a,if_neg (fun e=>d e.symm),if_neg (fun e=>c e.symm),X6,X6];rfl
 ·rw[Yd (by rw[ZL,ZL,ZP];omega),Yd (by rw[gY f];omega)]
section
variable {B:Xs}{o:M'}{w:P'}{h V:Nat}{fs:S'}{lo G:PL}{gs:N'}
theorem QS.KG (l:Std B)(H:QS o w h V fs)(so:TR lo o)(hv:Xu B 22 [.one lo] (.one (.bool true)))(sg:Sl G (Xf gs))(u:VS gs fs)
  {i j:Nat} (F:i≠j) {p q:PL} {f g:Z'} (hp:gs[i]? =some p) (hq:gs[j]? =some q) (U:fs[i]? =some f) (X:fs[j]? =some g) {s t:Qm} {us vs:Z'} {n k:Nat} {tq Qs:S'} {D C:Nat} (P:xZ o w h fs (s,f,us,0) (t,g,vs,0) n k tq Qs D C):
  ∃xs,Xu B 56 [.one G,.one (LA i),.one (LA j),.one lo] (.one (.Xn (Xf xs)))/\VS xs (fB fs.length i j s t Qs):=by
 have W:=Zk U;have Y:=Zk X;have a6:=u.length;have ln:=H.ln;obtain⟨p',I,pf⟩:=u.get U;rw[hp]at I;cases I;obtain⟨q',J,pg⟩:=u.get X;rw[hq]at J;cases J;have hs:XR o f=some s:=P.hd.ld;have ht:XR o g=some t:=P.he.ld;have A:=P.ok;have S:=P.S;have l1:=(H.el f W).ln;have l2:=(H.el g Y).ln;obtain⟨c,b1,k1,L⟩:=VU l so H.o8 H.ol pf (by omega);obtain⟨d,b2,k3,M⟩:=VU l so H.o8 H.ol pg (by omega);simp only[hs]at L;simp only[ht]at M;obtain⟨rfl,L⟩:=L;obtain⟨rfl,M⟩:=M;have v:=L.OK;have mt:=M.OK;have hL:=ig l v mt;have y:=bO v mt;have d1:Wn s.2 (XJ s.2 t.2)=true:=Tu _ _ (v.1.trans mt.1.symm);have d2:Wn t.2 (XJ s.2 t.2)=true:=Tt _ _ (v.1.trans mt.1.symm);obtain⟨s1,s2,s3,s4,rfl,qs,-⟩:=L;obtain⟨t1,t2,t3,t4,rfl,qt,-⟩:=M;obtain⟨e,i1,i2⟩:=uD l qs A.ht A.t0;obtain⟨e',i3,i4⟩:=uD l qt A.hs A.s0;obtain⟨x1,x2,x3,x4,rfl⟩:=i2.len;obtain⟨y1,y2,y3,y4,rfl⟩:=i4.len;have mu:XD (XQ (XJ s.2 t.2) s.2):=UG y v;have mw:XD (XQ (XJ s.2 t.2) t.2):=UG y mt;have v1:=iN l y.1 v.1 mu.1 i1 (OA l y v d1);have v2:=iN l y.1 mt.1 mw.1 i3 (OA l y mt d2);obtain⟨sp,a1,lr,r1,r2,r3,-,r5⟩:=H.Ge l so hv sg u P pf pg;obtain⟨cw,w1,w2⟩:=Rm l (x:=.negSucc 0) (by unfold DE;decide);obtain⟨a2,a3,a4,a5,rfl⟩:=w2.len;have z:∀Q∈Qs,Sz Q/\Q.length<400000:=fun Q hQ=>⟨(S.Kd Q hQ).1,by have:=(S.Kd Q hQ).2;omega⟩
 obtain⟨xs,n1,n2⟩:=qM l (c:=[.bool a2,a3,.bool a4,a5]) w2 r3 z;have Z:i<Qs.length:=by rw[S.iC];exact getElem?_lt' U
 have a0:j<Qs.length:=by rw[S.iC];exact getElem?_lt' X
 have m:=Zg Z;have r:=Zg a0;have N:=z _ (Zk m);have O:=z _ (Zk r);generalize Qs[i]=Qi at m N;generalize Qs[j]=Qj at r O;obtain⟨cx,g1,g2⟩:=n2.get (i:=i) (f:=Wu Qi) (by rw[ZD,m];rfl);obtain⟨o1,z1,z2⟩:=SY l g2 (lq:=.Xn [.bool x1::x2::.bool x3::x4::mo (XQ (XJ s.2 t.2) s.2)]) (us:=[(s.1⁻¹,XQ (XJ s.2 t.2) s.2)]) ⟨_,.Xn,.cons (W0.mk i2 mu) .nil⟩ N.1.neg (fun x hx=>by rw[ZS.1 hx];exact A.ht.inv) (by rw[rB];omega) (by simp);have n3:=n2.set (p:=.Xn o1) ⟨_,.Xn,z2⟩ i;obtain⟨dx,g3,g4⟩:=n3.get (i:=j) (f:=Wu Qj) (by rw[ZK F,ZD,r];rfl);obtain⟨o2,z3,z4⟩:=SX l g4 (lq:=.Xn [.bool y1::y2::.bool y3::y4::mo (XQ (XJ s.2 t.2) t.2)]) (us:=[(t.1⁻¹,XQ (XJ s.2 t.2) t.2)]) ⟨_,.Xn,.cons (W0.mk i4 mw) .nil⟩ O.1.neg (fun x hx=>by rw[ZS.1 hx];exact A.hs.inv) (by rw[rB];omega) (by simp);have n4:=n3.set (p:=.Xn o2) ⟨_,.Xn,z4⟩ j;rw[Ep S.iC F m r (P.pQ H) P.pX P.pY]at n4;refine⟨_,Bo l sg hp hq (by omega) (a:=o1) (b:=o2) (xs:=xs) ?_,n4⟩;exact(k1.Xk.and (k3.Xk.and (hL.Xk.and (r1.Xk.and (r2.Xk.and (w1.Xk.and (n1.and (v1.Xk.and (v2.Xk.and (z1.Xk.and z3.Xk)))))))))).mono fun E K ⟨f1,f2,f3,f4,f5,f6,f7,f8,f9,R,T⟩=>⟨_,a1,lr,_,_,_,_,_,_,_,_,_,_,_,_,_,_,_,_,_,_,_,_,_,_,_,_,_,_,_,v.1,mt.1,y.1,mu.1,mw.1,by omega,f1,f2,f3,f4,f5,f6,f7,f8,f9,g1,R,g3,T⟩
end
end Go.Proofs.YtidginchkjhobaaGreat
namespace Go.Proofs.YtidginchkjhobaaGreat
open Go.Ev Go.Num
theorem rI {us:Z'}(k:Q8 us){x:Qm}:∀{f c:Z'},Q8 f->Q8 c->x∈WY c f us->(∃a∈c,a.2=x.2)\/∃t∈f,∃u∈us,x.2=Xg t.2 u.2
 |[],c,_,_,h=>.inl ⟨x,by unfold WY at h;exact h,rfl⟩
 |t::f,c,ht,ha,h=>by
  unfold WY at h;have l:=V9 (z:=t.1) ht.head k;rcases rI k ht.tail (RQ ha l) h with⟨a,j,d⟩|⟨n,j,d⟩
  ·rcases Vj _ (Ze _) ha l j with⟨b,g,i⟩|⟨b,g,i⟩
   ·exact .inl ⟨b,g,i.trans d⟩
   ·obtain⟨u,m,e,-⟩:=Vo g;exact .inr ⟨t,Zc ..,u,m,by rw[<-d,<-i,e]⟩
  ·exact .inr ⟨n,Zb _ j,d⟩
structure K3 (w:P')(W D E a b:Nat)(q f:Z'):Prop where
 pq:Pl q
 pf:Pl f
 fq:VQ D a q
 ff:VQ E b f
 lq:q.length<=212
 lf:f.length<=200
 mm:∀u∈q,∀v∈f,ez w W (Xg u.2 v.2)
theorem ER {B:Xs}(z:vM B){w:P'}(s:w.length=8)(y:∀x∈w,0<x){W D E a b C k:Nat}(J:W<=65535)(G:(allM w W).length<=210)(i:F3 D E a b C k)(T:212*(200*(a*b))<=C):∀{o fs:S'} {lq O:N'} {d:Z'} {ra:PL} {c:Nat},XB (K3 w W D E a b) o fs->VS lq o->VS O fs->PQ ra d->Pl d->(∀u∈d,ez w W u.2)->VQ (D*E) c d->c+o.length*(212*(a*b))<=C->
  ∃p r,(XS B fun E _=>IS E ra lq O p)/\PQ p r/\Pl r/\∀j,X2 r j=X2 d j+V6 o fs j
 |[],_,_,_,d,ra,c,.nil,.nil,.nil,h3,pa,_,_,_=>⟨ra,d,XS.of fun _ _=>.nil ra,h3,pa,fun j=>by simp only[V6];grind⟩
 |q::o,f::fs,_,_,d,ra,c,.cons hM hA,.cons q1 q2,.cons f1 f2,h3,pa,L,fa,hc=>by
  rw[Zi,ZG,Z4]at hc;have U:0<D*E:=Yi i.d1 i.d2;have P:∀{l:Z'} {H:Nat},VQ (D*E) H l->H<=C->Sz l:=fun V A t g=>(V t g).sq i.k7 U i.dd A i.C
  have lq:=hM.lq;have N:=hM.lf;have R:f.length*(a*b)<=200*(a*b):=Zn _ N;have h2:q.length*(f.length*(a*b))<=212*(200*(a*b)):=ZT lq R;have S:q.length*(a*b)<=212*(a*b):=Zn _ lq;have h4:q.length*f.length<=212*200:=ZT lq N;obtain⟨x,Y,Z⟩:=yV z i q1 f1 hM.fq hM.ff hM.pq.dc.nz hM.pf.dc (fun t g u m=>(hM.mm t g u m).ok s y J) (by omega) (by omega) (by omega) (by omega);have n:=iG hM.pq hM.pf;have M:∀u∈WY [] q f,ez w W u.2:=fun u m=>by
   rcases rI hM.pf.q8 hM.pq.q8 (fun _ h=>by cases h) m with⟨_,h,_⟩|⟨t,g,v,X,e⟩
   ·cases h
   ·rw[e];exact hM.mm t g v X
  have I:VQ (D*E) (q.length*(a*b)) (WY [] q f):=(fU (c:=0) hM.pf.q8 hM.ff hM.pq.q8 (fun _ h=>by cases h) hM.fq (fun _ h=>by cases h)).mono (by omega);have la:=BX s y pa L;have lm:=BX s y n M;obtain⟨r',k3,k4⟩:=ma z.toStd h3 (lq:=.Xn x) ⟨x,.Xn,Z⟩ (P fa (by omega)) (P I (by omega)) (by omega) (by omega);have F:∀u∈Wh d (WY [] q f),ez w W u.2:=fun u m=>by
   rcases Vj _ (Ze _) pa.q8 n.q8 m with⟨t,g,e⟩|⟨t,g,e⟩
   ·rw[<-e];exact L t g
   ·rw[<-e];exact M t g
  obtain⟨p,r,k5,k6,k7,k8⟩:=ER z s y J G i T hA q2 f2 (ra:=.Xn r') ⟨_,.Xn,k4⟩ (pa.add n) F (VQ.Wh pa.q8 n.q8 fa I) (by omega);refine⟨p,r,(k5.and (Y.Xk.and k3.Xk)).mono fun E K ⟨Q,e1,e2⟩=>.cons e1 e2 Q,k6,k7,fun j=> ?_⟩;rw[k8 j,VC _ _ _ _ (Ze _) pa.q8 n.q8,oc hM.pq hM.pf];simp only[V6];grind
theorem FJ {o:M'}{w:P'}{h V:Nat}:∀{fs:S'},(∀f∈fs,He o w h V f)->∃E M,0<E/\E<=M/\2*M<=32^(h*fs.length+1)/\∀f∈fs,VQ E M f
 |[],_=>⟨1,1,by decide,by decide,by rw[Zr,Nat.mul_zero];decide,fun _ h=>by cases h⟩
 |f::fs,H=>by
  obtain⟨E,M,e1,e2,i,j⟩:=FJ (fs:=fs) fun g a=>H g (Zb _ a)
  obtain⟨D,A,c,b,d,e⟩:=(H f (Zc ..)).cd;refine⟨D*E,A*M,Yi c e1,ZT b e2,?_,fun g a=> ?_⟩
  ·have k:2*A*(2*M)<=32^h*32^(h*fs.length+1):=ZT d i;rw[<-Yu]at k;have l:2*A*(2*M)=4*(A*M):=by rw[Z3,Nat.mul_left_comm A 2];omega
   rw[Zi,Nat.mul_succ,show h*fs.length+h+1=h+(h*fs.length+1)by omega];omega
  ·rcases Zj.1 a with rfl|a
   ·exact(e.scale E).mono (Yb _ e2)
   ·rw[ZR D,ZR A];exact((j g a).scale D).mono (Yb _ b)
theorem FY {d e:Type}{R:d->e->Prop}:∀{xs:List d} {c:List e},xs.length=c.length->(∀(i:Nat) (x:d) (y:e),xs[i]? =some x->c[i]? =some y->R x y)->XB R xs c
 |[],[],_,_=>.nil
 |[],_::_,h,_=>by simp at h
 |_::_,[],h,_=>by simp at h
 |x::xs,y::c,h,H=>.cons (H 0 x y rfl rfl) (FY (by simpa using h) fun i a b f g=>H (i+1) a b (by simpa using f) (by simpa using g))
theorem Kn {B:Xs}(b:vM B){Q L g:PL}{f e:N'}(m:Sl Q (Xf f))(l:Sl L (Xf e))(i:f.length=e.length)(j:Sl g [])(h:Xu B 39 [.one Q,.one L] (.X9 [.one g,.one (LA 0)])):Xu B 13 [.one Q,.one L] (.one (.bool true)):=by
 have c:=m.len;have d:=l.len;have k:=j.len;rw[Xt]at c d;refine Xu.of (b.toStd.Wa _ _ rfl) ((h.Xk.and b.toStd.Xk).mono fun E K ⟨e1,a⟩=> ?_);simp(decide:=true)only[Xo,Xr,Vx,reduceIte,Nat.reduceAdd,x13,a,X4,c,d,i,e1,k]
section
variable {B:Xs}{o:M'}{w:P'}{h V W:Nat}{fs L:S'}{G X:PL}{gs xs:N'}
theorem QS.isX (hB : vM B) (H : QS o w h V fs) (sg : Sl G (Xf gs)) (hfs : VS gs fs) (sx : Sl X (Xf xs)) (hx : VS xs L) (hlen : L.length = fs.length) (pl : ∀ X ∈ L, Pl X) (ln : ∀ X ∈ L, X.length <= 212) {D N g : Nat} (d1 : 0 < D) (d2 : D <= N) (d3 : 2 * N <= 32 ^ g) (hg : g <= 1000000000000) (d4 : ∀ X ∈ L, VQ D N X) (mm : ∀ (i : Nat) (X f : List Qm), L[i]? = some X -> fs[i]? = some f -> ∀ u ∈ X, ∀ v ∈ f, ez w W (Xg u.2 v.2)) (hW : W <= 200) (num : (allM w W).length <= 210) (hz : ∀ φ, V6 L fs φ = 0) : Xu B 13 [.one X, .one G] (.one (.bool true)) := by
  obtain ⟨E, M, e1, e2, e3, e4⟩ := FJ H.el
  have ln41 := H.ln
  have hh := H.hh
  have lx := hx.length
  have lg := hfs.length
  have hm : h * fs.length <= h * 41 := Yb _ ln41
  have h1 : 2 * N * (2 * M) <= 32 ^ g * 32 ^ (h * fs.length + 1) := ZT d3 e3
  rw [<- Yu] at h1
  have h2 : 2 * N * (2 * M) = 4 * (N * M) := by rw [Z3, Nat.mul_left_comm N 2]; omega
  have h3 : (32 : Nat) ^ (g + (h * fs.length + 1)) * 32 ^ 4 <= 32 ^ (g + 41 * h + 5) := by
    rw [<- Yu]; exact Yt (by decide) (by omega)
  have h4 : (32 : Nat) ^ 4 = 1048576 := by decide
  rw [h4] at h3
  obtain ⟨k, k1, k2⟩ := Gh (h := g + 41 * h + 5) (by omega)
  have hNM1 : 1 <= N * M := Yi (by omega) (by omega)
  have hN1 : N <= N * M := YU _ (by omega)
  have hM1 : M <= N * M := Nat.le_mul_of_pos_left _ (by omega)
  have hDE : D * E <= N * M := ZT d2 e2
  have mb : F3 D E N M (1048576 * (N * M)) k := ⟨k1, d1, e1, by omega, by omega, by omega, by omega⟩
  have hA : XB (K3 w W D E N M) L fs := FY hlen fun i x y hx hy => ⟨pl x (Zk hx), H.EU y (Zk hy), d4 x (Zk hx), e4 y (Zk hy), ln x (Zk hx), (H.el y (Zk hy)).ln, mm i x y hx hy⟩
  have hL : L.length * (212 * (N * M)) <= 41 * (212 * (N * M)) := Zn _ (by omega)
  obtain ⟨rf, r, g1, g2, g3, g4⟩ := ER hB H.w8 H.wp (by omega) num mb (by omega) hA hx hfs (d := []) (ra := .Xq) (c := 0) ⟨[], .nil, .nil⟩ Pl.nil (fun _ h => by cases h) (fun _ h => by cases h) (by omega)
  have hr : r = [] := AH g3 fun φ => by rw [g4, hz]; simp only [X2]; grind
  subst hr
  obtain ⟨es, s1, p1⟩ := g2
  cases p1
  exact Kn hB sx sg (by omega) s1 (Hp hB.toStd sx sg (by omega) (by omega) g1)
theorem QS.is (g:vM B)(H:QS o w h V fs)(l:Sl G (Xf gs))(a:VS gs fs)(m:Sl X (Xf xs))(j:VS xs L)(v:F0 w h fs W L)(i:W<=200)(b:(allM w W).length<=210)(k:∀n,V6 L fs n=0):Xu B 13 [.one X,.one G] (.one (.bool true)):=by
 obtain⟨D,N,c,d,e,f⟩:=v.fr;have p:=H.hh;exact H.isX g l a m j v.len v.pl v.ln c d e (by omega) f v.mm i b k
end
end Go.Proofs.YtidginchkjhobaaGreat
namespace Go.Proofs.YtidginchkjhobaaGreat
open Go.Ev Go.Num
inductive aP (w:P')(h:Nat)(fs:S'):I'->I'->Prop
 |nil:aP w h fs [] []
 |cons {xs ys:N'} {L:S'} {W:Nat} {xss yss:I'} (hx:VS xs L) (hy:VS ys L) (hW:W<=200) (num:(allM w W).length<=210) (v:F0 w h fs W L) (hz:∀φ,V6 L fs φ=0) (t:aP w h fs xss yss):aP w h fs (xs::xss) (ys::yss)
theorem aP.app {w:P'}{h:Nat}{fs:S'}{a b c d:I'}(l:aP w h fs a b)(m:aP w h fs c d):aP w h fs (a++c) (b++d):=by
 induction l with
 |nil=>exact m
 |cons g i f e v j _ k=>exact .cons g i f e v j k
theorem aP.len {w:P'}{h:Nat}{fs:S'}{a b:I'}(k:aP w h fs a b):b.length=a.length:=by
 induction k with
 |nil=>rfl
 |cons _ _ _ _ _ _ _ c=>simp[c]
theorem aP.get {w:P'}{h:Nat}{fs:S'}{a b:I'}(k:aP w h fs a b):∀{i:Nat} {xs:N'},a[i]? =some xs->∃d L W,b[i]? =some d/\VS xs L/\VS d L/\W<=200/\(allM w W).length<=210/\F0 w h fs W L/\∀n,V6 L fs n=0:=by
 induction k with
 |nil=>intro i xs h;simp at h
 |cons g j f c v l t m=>
  intro i xs e;cases i with
  |zero=>
   rw[Ym]at e;cases e;exact⟨_,_,_,rfl,g,j,f,c,v,l⟩
  |succ i=>
   rw[Z2]at e⊢;exact m e
section
variable {B:Xs}{o:M'}{w:P'}{h V:Nat}{fs:S'}{lo G:PL}{gs:N'}
theorem QS.row (x:eo B)(H:QS o w h V fs)(A:TR lo o)(L:Xu B 50 [.one lo] (.one (.bool true)))(u:Xu B 22 [.one lo] (.one (.bool true)))(z:Sl G (Xf gs))(a:VS gs fs){i:Nat}{p:PL}{f:Z'}(y:gs[i]? =some p)(m:fs[i]? =some f):
  ∀(v:N') (j:Nat),i<j->gs.drop j=v->j+v.length=gs.length->∃b c,(XS B fun E _=>Nh E G lo p i gs.length j v b/\Gy E G lo i gs.length j c)/\aP w h fs b c
 |[],j,_,_,hj=>by
  simp only[Zr,Z0]at hj;subst hj;exact⟨[],[],XS.of fun _ _=>⟨.nil _,.nil⟩,.nil⟩
 |q::v,j,hij,hd,hj=>by
  simp only[Zi]at hj;obtain⟨J,R⟩:=Xi hd;obtain⟨b,c,W,X⟩:=QS.row x H A L u z a y m v (j+1) (by omega) R (by omega);have U:=a.length;have r:=Zg (l:=fs) (i:=j) (by omega);generalize fs[j]=g at r;have d:=Zk m;have e:=Zk r;obtain⟨s,us,F⟩:=aX (o:=o) (H.el f d).ne;obtain⟨t,vs,I⟩:=aX (o:=o) (H.el g e).ne;obtain⟨n,k,tq,Qs,D,C,P⟩:=H.pair ((H.el f d).JO d F 0) ((H.el g e).JO e I 0);obtain⟨xs,M,N⟩:=H.iM x A L z a hij y J m r P F I;obtain⟨Y,O,Q⟩:=H.KG x.toStd A u z a (by omega) y J m r P;refine⟨xs::b,Y::c,(W.and (M.and O.Xk)).mono fun E K ⟨⟨e1,e2⟩,S,T⟩=>⟨.cons S e1,.cons (by omega) T e2⟩,.cons N Q P.wl P.num (P.vec H m r (by omega)) (P.zero H m r) X⟩
theorem QS.rows (k:eo B)(H:QS o w h V fs)(t:TR lo o)(q:Xu B 50 [.one lo] (.one (.bool true)))(d:Xu B 22 [.one lo] (.one (.bool true)))(s:Sl G (Xf gs))(b:VS gs fs):
  ∀(a:N') (i:Nat),gs.drop i=a->i+a.length=gs.length->∃c g,(XS B fun E _=>er E G lo gs.length i a c/\IQ E G lo gs.length i g)/\aP w h fs c g/\2*c.length=a.length*(a.length-1)
 |[],i,_,hi=>by
  simp only[Zr,Z0]at hi;subst hi;exact⟨[],[],XS.of fun _ _=>⟨.nil _,.nil⟩,.nil,rfl⟩
 |p::a,i,hd,hi=>by
  simp only[Zi]at hi;obtain⟨y,j⟩:=Xi hd;obtain⟨x2,J,C,D,F⟩:=QS.rows k H t q d s b a (i+1) j (by omega);have z:=b.length;have m:=Zg (l:=fs) (i:=i) (by omega);generalize fs[i]=f at m;obtain⟨u,I,r,m2⟩:=QS.row k H t q d s b y m a (i+1) (by omega) j (by omega);have A:u.length=a.length:=by
   obtain⟨N,e⟩:=r;exact(e N N (Ze _) (Ze _)).1.len
  refine⟨u++x2,I++J,(C.and r).mono fun E K ⟨⟨e1,e2⟩,v,x⟩=>⟨.cons v e1,.cons (by omega) x e2⟩,m2.app D,?_⟩;rw[Zm,Zi,Nat.mul_add,F,A,Yj];cases L:a.length with
  |zero=>rfl
  |succ n=>rw[Yj,ZG,ZR 2];simp only[Nat.mul_add,ZG];omega
theorem QS.both (c:pv B)(H:QS o w h V fs)(m:TR lo o)(l:Xu B 50 [.one lo] (.one (.bool true)))(g:Xu B 22 [.one lo] (.one (.bool true)))(i:Sl G (Xf gs))(a:VS gs fs):
  ∃L b d,Sl L (Xf (ON b))/\Xu B 19 [.one G,.one lo] (.X9 [.one L,.one (LA 0)])/\Xu B 20 [.one G,.one lo] (.X9 [.one (.Xn (Xf (ON d))),.one (LA 0)])/\aP w h fs b d/\2*b.length=gs.length*(gs.length-1):=by
 have z:=H.ln;have q:=a.length;obtain⟨b,d,p,s,t⟩:=H.rows c.toeo m l g i a gs 0 rfl (by omega);obtain⟨L,y,u⟩:=gX c.toStd i (by omega) (p.mono fun E K e=>e.1);have n:=o5 c.toStd i a (by omega);have j:(fs.map fun f=>decide (f.length=0)).any id=false:=by
  rw[List.any_eq_false];intro x r;obtain⟨f,k,rfl⟩:=ZM.1 r;have:=(H.el f k).ne;simp only[id,decide_eq_true_eq];exact fun e=>this (Ye e)
 rw[j]at n;have v:=qI c.toStd l n (H.Fc c m l i a) u;have w1:=uq c.toStd g (yw c.toStd i (by omega) a fun f k=>(H.el f k).ne) (H.Bu c.toStd m g i a);exact⟨L,b,d,y,v,kH c.toStd i (by omega) w1 (p.mono fun E K e=>e.2),s,t⟩
theorem QS.each (j:vM B)(H:QS o w h V fs)(y:Sl G (Xf gs))(e:VS gs fs){a b:I'}(v:aP w h fs a b){i:Nat}{xs:N'}(x:a[i]? =some xs):
  ∃d,b[i]? =some d/\Xu B 21 [.one (.Xn (Xf xs)),.one (.Xn (Xf d))] (.one (.bool true))/\Xu B 13 [.one (.Xn (Xf xs)),.one G] (.one (.bool true)):=by
 obtain⟨d,L,W,q,g,r,s,t,c,u⟩:=v.get x;have z:=H.hh;have A:=H.ln;obtain⟨D,M,l,m,n,p⟩:=c.fr;refine⟨d,q,Bh j.toStd .Xn .Xn g r (fun f k=>⟨(p f k).NU l m n (by omega),by have:=c.ln f k;omega⟩) (by have:=c.len;omega),H.is j y e .Xn g c s t u⟩
end
end Go.Proofs.YtidginchkjhobaaGreat
