/- Lists whose sizes are known: divisions of their S-polynomials. -/
import Derived.Test.YtidginchkjhobaaGreatGamB
set_option maxHeartbeats 16000000
set_option maxRecDepth 100000
namespace Go.Ev
open Go.Proofs.YtidginchkjhobaaGreat
theorem Fo {o}{m:I'->Prop}{f:P'->Prop}{fs}{l r}{i g}{j}(h:fI o m f fs l i r g j):∀{d} {e},fI o m f fs l i r d e->g=d/\j=e:=by
 induction h with
 |done=>
  intro d e k;cases k with
  |done=>exact⟨rfl,rfl⟩
  |rem _ _ _ b=>cases b
  |div _ _ _ _ _ _ _ _ _ _ b=>cases b
 |rem n p c3 b s h w=>
  intro d e k;cases k with
  |done=>cases b
  |rem _ _ _ c a k=>grind
  |div _ _ _ _ _ _ _ _ _ _ c a=>grind
 |div n p c3 c4 c5 c6 x y z c10 b s B D A C h w=>
  intro d e k;cases k with
  |done=>cases b
  |rem _ _ _ c a=>grind
  |div _ _ _ _ _ _ _ _ _ _ c a t v q u k=>
   grind
structure He (o:M')(w:P')(h V:Nat)(f:I'):Prop where
 fe:∃lc m A,Fe o A lc m f/\2*A<=32^h
 cd:∃D A,0<D/\D<=A/\2*A<=32^h/\W8 D A f
 wl:∀s,XB o f=some s->XA s.2/\Wu w s.2<=V/\∀u∈f,Wu w u.2<=Wu w s.2
 ln:f.length<=200
section
variable {o:M'}{w:P'}{h V N:Nat}{f:I'}
theorem He.pl (H:He o w h V f):Pl f:=by obtain⟨⟨_,_,_,F,_⟩,_⟩:=H;exact F.pl
theorem He.ne (H:He o w h V f):f≠[]:=by
 obtain⟨⟨_,_,_,F,_⟩,_⟩:=H;rintro rfl;cases F.ld
theorem He.M1 (H:He o w h V f){fs}(j:f∈fs){s}{us}(e:VI o f=s::us)(i):OL o w (32^h) fs (s,f,us,i):=by
 have b:=W0 o f;rw[e]at b;have a:=Th (o:=o) H.pl.Sk;rw[e]at a;have c:=PA H.pl e;obtain⟨D,A,d,l,m,g⟩:=H.cd;have n:=H.ln;exact⟨j,H.pl,c,a,b,⟨D,d,by omega,fun u k=>by
  obtain⟨z,p,q⟩:=g u k
  grind⟩,(H.wl s c).2.2,by grind⟩
theorem Ff {fs}:∀l i,(∀f∈l,f∈fs/\He o w h V f)->∀d∈Vl o l i,OL o w (32^h) fs d/\d.2.1∈l
 |[],_,_,d,hd=>by cases hd
 |f::l,i,H,d,hd=>by
  obtain⟨a,b⟩:=H f (Zc ..);have j:=Ff l (i+1) fun g c=>H g (Za _ c)
  unfold Vl at hd;split at hd
  ·grind
  ·rename_i t us e;rcases Zk.1 hd with rfl|hd
   ·exact⟨b.M1 a e i,Zc ..⟩
   grind
theorem I4 {n}(d:n<=210)(i:h<=1000000):∃k,k<200000000000/\2*32^h*32^h*(2*32^h)^n*32^h<4294967296^k/\32^h<4294967296^k:=by
 have j:(h+1)*n<=(h+1)*210:=ZE _ d;obtain⟨k,l,m⟩:=yE (h:=3*h+1+(h+1)*n) (by omega);have e1:(32:Nat)^(3*h+1+(h+1)*n)=32*(32^h*32^h*32^h)*(32^(h+1))^n:=by
  rw[<-Nat.pow_mul,Ye,ZI,show 3*h=h+h+h by omega,Ye,Ye,ZT _ 32]
 have e2:2*32^h<=32^(h+1):=by rw[ZI];omega
 have c:=Nat.pow_le_pow_left e2 n;have a:0<32^h:=Yr (by decide);have b:0<(2*32^h)^n:=Yr (by omega);generalize e:(32^(h+1))^n=X at *;generalize f:(2*32^h)^n=Y at *;generalize g:(32:Nat)^h=Z at *;have o:2*Z*Z*Y*Z=2*(Z*Z*Z*Y):=by
  grind
 have p:32*(Z*Z*Z)*X=32*(Z*Z*Z*X):=Yn ..;have q:Z*Z*Z*Y<=Z*Z*Z*X:=ZE _ c;have r:0<Z*Z*Z*Y:=ZV (ZV (ZV a a) a) b;have s:Z*1<=Z*(Z*Z*Y):=ZE _ (ZV (ZV a a) b)
 grind
structure aD (o:M')(w:P')(h V:Nat)(fs:S'):Prop where
 o8:Vq o
 ol:o.length<1000000
 w8:w.length=8
 wp:∀x∈w,0<x
 el:∀f∈fs,He o w h V f
 ln:fs.length<=41
 vv:V<=100
 nm:∀W,W<=2*V->(allM w W).length<=210
 hh:h<=1000000
 gb:FV o w fs
variable {fs:S'}
theorem aD.DQ (H:aD o w h V fs):∀f∈fs,Pl f:=fun f a=>(H.el f a).pl
theorem aD.dv (H:aD o w h V fs):∀d∈Vl o fs 0,OL o w (32^h) fs d:=fun d b=>(Ff fs 0 (fun f a=>⟨a,H.el f a⟩) d b).1
theorem aD.cx (H:aD o w h V fs){k W}(b:k<200000000000)(a:W<=65535):Cx o w W (32^h) k fs (Vl o fs 0):=
 ⟨H.w8,H.wp,a,H.dv,Yr (by decide),b,H.DQ⟩
theorem aD.rg (H:aD o w h V fs){W}(x:W<=65535):Rg o fs (fun _=>h) (TQ o (allM w W)):=by
 have ls:=jW (o:=o) H.w8 H.wp W;refine⟨ls.dc,fun n y=>(ls.wY n y).ok H.w8 H.wp x,fun a g=> ?_⟩;cases d:WW o a fs 0 with
 |none=>exact .inl rfl
 |some i=>
  right;obtain⟨f,s,b,r,k⟩:=No d;rw[Nat.sub_zero]at b;have E:=H.el f (Zh b);obtain⟨p,m,A,F,v⟩:=E.fe;have B:s=(p,m):=by
   have:=F.ld
   grind
  subst B;obtain⟨C,-,e⟩:=E.wl _ r;refine⟨i,f,p,m,A,rfl,b,F,v,k,fun u l _=> ?_⟩;have c:=ls.wY a g;have j:=Va c.1 F.m8;have z:Xg (XO a m) m=a:=by rw[XL];exact WD (F.m8.trans c.1.symm) k
  have q:=F.pl.q8 u l;refine WU.2 (To (H.w8.trans (Wo j q).symm) H.wp ?_);rw[Wr w (j.trans q.symm)];have D:=e u l;have t:=c.2;rw[<-z,Wr w (j.trans F.m8.symm)]at t
  grind
structure zW (o:M')(w:P')(h:Nat)(fs:S')(d e:Dv)(n k:Nat)(tq Qs:S')(D C:Nat):Prop where
 hd:OL o w (32^h) fs d
 he:OL o w (32^h) fs e
 k9:k<200000000000
 ok:FM d e
 wl:Wu w (PC d e)<=200
 num:(allM w (Wu w (PC d e))).length<=210
 lsl:(wL o w d e).length<=210
 sz:2*32^h*32^h*(2*32^h)^(wL o w d e).length*32^h<4294967296^k
 rB:(lX d e).length<60000
 S:Mb k o (wL o w d e) fs (lX d e) n tq [] Qs []
 D0:0<D
 DC:D<=C
 C32:2*C<=32^(212*h+1)
 fr:∀Q∈Qs,W8 D C Q
 qln:∀Q∈Qs,Q.length<=210
 sum:∀φ,XZ (lX d e) φ=WA Qs fs φ
theorem aD.pair (H:aD o w h V fs){d e}(a:OL o w (32^h) fs d)(b:OL o w (32^h) fs e):∃n k tq Qs D C,zW o w h fs d e n k tq Qs D C:=by
 have vv:=H.vv;have hh:=H.hh;have F:Wu w (PC d e)<=2*V:=by
  have g:=((H.el _ a.mem).wl _ a.ld).2.1;have r:=((H.el _ b.mem).wl _ b.ld).2.1
  grind [oX]
 have i:=H.nm _ F;have c:(wL o w d e).length<=210:=Zy (Zy (List.length_filter_le ..) (Pn _)) i;obtain⟨k,G,j,l⟩:=I4 (h:=h) c hh;have ok:FM d e:=I2 G l H.w8 H.wp (by omega) a b;have p:=Im H.w8 H.wp a b;have z:∀u∈lX d e,u.2∈wL o w d e:=fun u m=>by
  obtain⟨g,r⟩:=ym a b u m;exact yT H.w8 H.wp g r
 have q:0<32^h:=Yr (by decide);have v:1<=2*32^h*32^h:=ZV (ZV (by decide) q) q;have f:=iT a b;obtain⟨n,tq,tr,Qs,R,S⟩:=uO (H.cx G (W:=Wu w (PC d e)) (by omega)) p (by omega) f z (vM a b) v j;have E:tr=[]:=by
  refine JQ (H.gb (Wu w (PC d e))) S.nzr ?_ fun u m U y s' B=> ?_
  ·have q1:=yl a b (P:=fun n=>L8 n/\Wu w n<=Wu w (PC d e)) ⟨rE a b,Zf _⟩;have q2:=(S.MM.mono (Q:=fun n=>L8 n/\Wu w n<=Wu w (PC d e)) fun n A=>(ah H.w8 H.wp A).1).smul (-1);exact(q1.plus q2).congr fun φ=>by grind
  ·obtain⟨M,g,r,-⟩:=ij fs 0 H.DQ U y s' B;rw[<-r];exact S.nd u m M g
 subst E;have hR:R=[]:=S.rest.symm.trans rfl;subst hR;have rB:(lX d e).length<60000:=by
  have g:=PO.eI p.dc (fun n A=>(ah H.w8 H.wp A).1.1) (Th f.Sk) fun u m=>z u ((W0 o _).mem_iff.1 m)
  grind [Sh]
 obtain⟨K,N,O,T⟩:=vM a b;have rg:Rg o fs (fun _=>h) (wL o w d e):=(H.rg (W:=Wu w (PC d e)) (by omega)).below (rE a b);have x:=Nv h (wL o w d e);have a0:(wL o w d e).length*h<=210*h:=Zm _ c;have t:2*(2*32^h*32^h)<=32^(2*h+1):=by
  rw[ZI,show 2*h=h+h by omega,Ye]
  grind
 obtain⟨L,R',J,I,X,Z,g3,g4,-,g6,g7,-,-,-,-,-,Y⟩:=EL (NN:=(wL o w d e).length+1) (by omega) (wL o w d e) rg (by omega) (left:=lX d e) (R:=[]) (Qs:=List.replicate fs.length []) (D:=K) (C:=2*32^h*32^h) (H:=2*h+1) f z N O t (by omega) T (by simp) (fun Q s=>by
  rw[(Yt.1 s).2];exact⟨Pl.nil,(fun _ h=>by cases h),by simp⟩) Pl.nil (fun _ h=>by cases h) (by simp) (fun _ h=>by cases h)
 obtain⟨rfl,rfl⟩:=Fo S.ref X;refine⟨n,k,tq,Qs,J,I,a,b,G,ok,by omega,i,c,j,rB,S,Z,g3,?_,fun Q s=>(g7 Q s).2.1,fun Q s=>by grind,fun φ=> ?_⟩
 ·refine Zy g4 (Z5 (by decide) ?_);omega
 grind [Qn]
end
section
variable {B:Xq}{o:M'}{w:P'}{h V:Nat}{fs:S'}{lo L:PL}{ls:N'}
theorem aD.qY (H:aD o w h V fs):∀y:List (Nat×Nat),(∀p∈y,p.1<(Vl o fs 0).length/\p.2<(Vl o fs 0).length)->ry o (Vl o fs 0) y true
 |[],_=>.nil
 |(i,j)::y,hp=>by
  have F:=H.qY y fun p h=>hp p (Za _ h)
  obtain⟨K,L⟩:=hp (i,j) (Zc ..);have g:=Zd K;have l:=Zd L;have a:=H.dv _ (Zh g);have c:=H.dv _ (Zh l);generalize (Vl o fs 0)[i]=d at *;generalize (Vl o fs 0)[j]=e at *;by_cases r:Pb d.1.2 e.1.2=Ut
  ·exact .skip g l r F
  ·obtain⟨n,k,tq,Qs,D,C,P⟩:=H.pair a c;have wl:=P.wl;have Y:=P.lsl;have x:=iT a c;have v:0<32^h:=Yr (by decide);have z:1<=2*32^h*32^h:=ZV (ZV (by decide) v) v;have Z:PO o (VI o (lX d e)):=Th x.Sk;have A:∀u∈VI o (lX d e),u.2∈wL o w d e:=fun u S=>by
    obtain⟨B,E⟩:=ym a c u ((W0 o _).mem_iff.1 S);exact yT H.w8 H.wp B E
   have I:Cf (2*32^h*32^h) (VI o (lX d e)):=(vM a c).sub fun t R=>(W0 o _).mem_iff.1 R
   obtain⟨m,tr,T,U⟩:=eb (H.cx P.k9 (W:=Wu w (PC d e)) (by omega)) (tq:=List.replicate (Vl o fs 0).length []) (fun q N=>by
    rw[(Yt.1 N).2];exact⟨(fun _ h=>by cases h),by simp⟩) (wL o w d e) (Im H.w8 H.wp a c) (by omega) Z A I z P.sz
   have b:S3 (lX d e):=PJ x;rcases U with⟨rfl,G⟩|⟨t,p1,rfl,G,k4,k5,X⟩
   ·exact .ok g l r P.ok b P.rB T F
   ·exfalso;have r1:=yl a c (P:=fun n=>L8 n/\Wu w n<=Wu w (PC d e)) ⟨rE a c,Zf _⟩;have r2:=(X.mono (Q:=fun n=>L8 n/\Wu w n<=Wu w (PC d e)) fun n M=>(ah H.w8 H.wp M).1).smul (-1);refine EP (H.gb (Wu w (PC d e))) G ((r1.plus r2).congr fun φ=>by rw[cp];grind) fun f J s O=> ?_
    obtain⟨d',B,E,h3⟩:=ij fs 0 H.DQ f J s O
    grind
theorem kV (o):∀fs i,(Vl o fs i).length<=fs.length
 |[],_=>Zf _
 |f::fs,i=>by
  have a:=kV o fs (i+1)
  grind [Vl]
theorem aD.Hm (c:mL B)(H:aD o w h V fs)(g:SA lo o)(d:Xv B 50 [.one lo] (.one (.bool true)))(e:Sl L (Xf ls))(a:VV ls fs):Xv B 53 [.one L,.one lo] (.one (.bool true)):=by
 have k:=H.ln;have i:=kV o fs 0;exact qa c g H.o8 H.ol d e a (fun f b=>⟨PJ (H.DQ f b),by have:=(H.el f b).ln;omega⟩) (by omega) (by omega) (H.qY _ fun p j=>by
  grind [DJ])
end
section
variable {B:Xq}{o:M'}{w:P'}{h V:Nat}{fs:S'}{lo G:PL}{gs:N'}
theorem aD.jF (m:fG B)(H:aD o w h V fs)(so:SA lo o)(hv:Xv B 50 [.one lo] (.one (.bool true)))(sg:Sl G (Xf gs))(r:VV gs fs)
  {i j} (b5:i<j) {p q} {f g} (hp:gs[i]? =some p) (hq:gs[j]? =some q) (u:fs[i]? =some f) (hg:fs[j]? =some g) {s t} {us vs} {n k} {tq Qs} {D C} (P:zW o w h fs (s,f,us,0) (t,g,vs,0) n k tq Qs D C) (es:VI o f=s::us) (et:VI o g=t::vs):
  ∃xs,(XT B fun E _=>vo E G lo p q i j gs.length xs)/\VV xs (jg fs.length i j s t Qs):=by
 have I:=Zh u;have J:=Zh hg;have b6:j<fs.length:=(Zg.1 hg).1;have a7:=r.length;have ln:=H.ln;obtain⟨p',L,pf⟩:=r.get u;rw[hp]at L;cases L;obtain⟨q',M,pg⟩:=r.get hg;rw[hq]at M;cases M;have hd:=P.hd;have he:=P.he;have hs:XB o f=some s:=hd.ld;have ht:XB o g=some t:=he.ld;have l:=P.ok;have S:=P.S;have l1:=(H.el f I).ln;have l2:=(H.el g J).ln;have a9:=(H.el f I).pl;have b0:=(H.el g J).pl;obtain⟨r0,r1,r2⟩:=wk m so H.o8 H.ol hv pf pg (PJ a9) (PJ b0) (by omega) (by omega) es et l.ht l.t0 l.hs l.s0 l.zt l.zs l.ot l.os l.rt l.rs;have fi:=ES o H.DQ;obtain⟨a8,b8,e1,e2,e3⟩:=tC m so H.o8 H.ol hv sg r (fun f u=>⟨PJ (H.DQ f u),by have:=(H.el f u).ln;omega⟩) (by omega) (lp:=.Xl r0) (p:=lX (s,f,us,0) (t,g,vs,0)) ⟨_,.Xl,r2⟩ (PJ (iT hd he)) P.rB (by
   have:=kV o fs 0;omega) (fun d hd=>by
   obtain⟨j,hj⟩:=Zv.1 hd;exact(Zg.1 (fi.at_ j d hj)).1) S.prog S.Y8 S.Y7 S.Y6 S.Y5
 rw[S.same]at e2;have b4:=S.mv;obtain⟨n1,a1,d1,b1,c1,c2,ms⟩:=Od m.toStd so H.o8 H.ol pf (by omega) hs;obtain⟨n2,a2,d2,b2,c3,c4,mt⟩:=Od m.toStd so H.o8 H.ol pg (by omega) ht;have U:=ms.1;have t8:=mt.1;have wl:Wu w (XM s.2 t.2)<=200:=P.wl;have v:XA (XM s.2 t.2):=QJ.ok (w:=w) (W:=200) ⟨Q9 U t8,wl⟩ H.w8 H.wp (by omega);have k1:=jA m.toStd ms mt;have k2:=O5 m.toStd v ms (TC _ _ (U.trans t8.symm));have k3:=O5 m.toStd v mt (Sv _ _ (U.trans t8.symm));obtain⟨x,i1,i2⟩:=cg m.toStd c2 l.ht l.t0;obtain⟨y,i3,i4⟩:=cg m.toStd c4 l.hs l.s0;obtain⟨z,i5,i6⟩:=js m.toStd i4 l.hs.inv;obtain⟨x1,x2,x3,x4,rfl⟩:=i2.len;obtain⟨y1,y2,y3,y4,rfl⟩:=i4.len;obtain⟨z1,z2,z3,z4,rfl⟩:=i6.len;have N:L8 (XO (XM s.2 t.2) s.2):=Va v.1 U;have R:L8 (XO (XM s.2 t.2) t.2):=Va v.1 t8;have mu:XA (XO (XM s.2 t.2) s.2):=Tf v ms;have mw:XA (XO (XM s.2 t.2) t.2):=Tf v mt;have u1:=iH m.toStd (i:=i) (n:=gs.length) (a:=.bool x1) (b:=x2) (c:=.bool x3) (d:=x4) N (by omega) (by omega);have u2:=iH m.toStd (i:=j) (n:=gs.length) (a:=.bool z1) (b:=z2) (c:=.bool z3) (d:=z4) R (by omega) (by omega);have Z:∀Q∈Qs,Sz Q/\Q.length<400000:=fun Q hQ=>⟨(S.YP Q hQ).1,by have:=(S.YP Q hQ).2;omega⟩
 obtain⟨T,v1,v2⟩:=nN m.toStd e2 Z;have b7:=e2.length;have v3:=tM m.toStd (V:=.Xl (Xf a8)) .Xl (by omega) v1;have pU:VV ((List.replicate gs.length .Xp).set i (.Xl [.bool x1::x2::.bool x3::x4::mo (XO (XM s.2 t.2) s.2)])) ((List.replicate gs.length []).set i [(s.1⁻¹,XO (XM s.2 t.2) s.2)]):=(OX _).set ⟨_,.Xl,.cons (Vn.mk i2 mu) .nil⟩ i;have pW:VV ((List.replicate gs.length .Xp).set j (.Xl [.bool z1::z2::.bool z3::z4::mo (XO (XM s.2 t.2) t.2)])) ((List.replicate gs.length []).set j [(-t.1⁻¹,XO (XM s.2 t.2) t.2)]):=(OX _).set ⟨_,.Xl,.cons (Vn.mk i6 mw) .nil⟩ j;have F:∀(i:Nat) (x:Qm),Sq x.1->∀f∈(List.replicate gs.length ([]:I')).set i [x],Sz f/\f.length<400000:=fun i x hx f u=>by
  rcases List.mem_or_eq_of_mem_set u with h|rfl
  ·rw[(Yt.1 h).2];exact⟨Sz.nil,by simp⟩
  ·exact⟨fun y hy=>by rw[Yj.1 hy];exact hx,by simp⟩
 obtain⟨o1,w1,w2⟩:=dF m.toStd pU pW (by simp) (F i _ l.ht.inv) (F j _ l.hs.inv.neg);have Y:∀X∈List.zipWith X8 ((List.replicate gs.length []).set i [(s.1⁻¹,XO (XM s.2 t.2) s.2)]) ((List.replicate gs.length []).set j [(-t.1⁻¹,XO (XM s.2 t.2) t.2)]),Sz X/\X.length<400000:=fun X hX=>by
  obtain⟨h,e⟩:=Zv.1 hX;obtain⟨A,B',e3,e4,rfl⟩:=gK e;rcases rW e3 with⟨h1,rfl⟩|⟨h1,rfl⟩
  ·rcases rW e4 with⟨h2,rfl⟩|⟨h2,rfl⟩
   ·omega
   ·rw[W6];exact⟨fun y hy=>by rw[Yj.1 hy];exact l.ht.inv,by simp⟩
  ·rw[X5];exact F j _ l.hs.inv.neg B' (Zh e4)
 have b3:∀X∈Qs.map WE,Sz X/\X.length<400000:=fun X hX=>by
  obtain⟨Q,hQ,rfl⟩:=ZM.1 hX;obtain⟨q1,q2⟩:=Z Q hQ;exact⟨q1.neg,by unfold WE X2;rw[ZP];exact q2⟩
 obtain⟨o2,w3,w4⟩:=dF m.toStd w2 v2 (by rw[List.length_zipWith,Yi,Yi,ZP,YL,Nat.min_self];omega) Y b3;have w5:=jz m.toStd (O:=.Xl (Xf [.Xl (Xf ((List.replicate gs.length .Xp).set j (.Xl [.bool z1::z2::.bool z3::z4::mo (XO (XM s.2 t.2) t.2)]))),.Xl (Xf T)])) (vs:=(List.replicate gs.length .Xp).set i (.Xl [.bool x1::x2::.bool x3::x4::mo (XO (XM s.2 t.2) s.2)])) (os:=[.Xl (Xf ((List.replicate gs.length .Xp).set j (.Xl [.bool z1::z2::.bool z3::z4::mo (XO (XM s.2 t.2) t.2)]))),.Xl (Xf T)]) (out:=o2) .Xl (by simp;omega) (by simp) ((w1.and w3).mono fun E K ⟨e1,e2⟩=>.cons .Xl e1 (.cons .Xl e2 (.nil _)));rw[a7]at w4;refine⟨o2,?_,w4⟩;exact(r1.Xk.and (e1.Xk.and (c1.Xk.and (c3.Xk.and (k1.Xk.and (k2.Xk.and (k3.Xk.and (i1.Xk.and (i3.Xk.and (u1.Xk.and (i5.Xk.and (u2.Xk.and (v3.Xk.and w5.Xk))))))))))))).mono fun E K ⟨f1,f2,f3,f4,f5,f6,f7,f8,f9,a0,a3,a4,a5,a6⟩=>⟨_,_,_,_,_,_,_,_,_,_,_,_,_,_,_,_,_,_,_,_,_,_,_,_,_,_,_,_,_,_,_,U,t8,v.1,N,R,f1,f2,f3,f4,f5,f6,f7,f8,f9,a0,a3,a4,a5,a6⟩
end
theorem getElem?_lt' {a:Type}{l:List a}{i:Nat}{x:a}(h:l[i]? =some x):i<l.length:=by grind
theorem Pq {n i j}{s t}{Qs}(a:Qs.length=n){h}{X}(e:(jg n i j s t Qs)[h]? =some X):
  ∃Q,Qs[h]? =some Q/\X=X8 (X8 (if h=i then[(s.1⁻¹,XO (XM s.2 t.2) s.2)]else[]) (if h=j then[(-t.1⁻¹,XO (XM s.2 t.2) t.2)]else[])) (WE Q):=by
 unfold jg at e
 grind
theorem C9 {n i j}{s t}{Qs}(a:Qs.length=n):(jg n i j s t Qs).length=n:=by grind [jg]
theorem OT:∀{A B fs},(∀X∈A,Q8 X)->(∀X∈B,Q8 X)->A.length=B.length->∀c,WA (List.zipWith X8 A B) fs c=WA A fs c+WA B fs c
 |[],[],_,_,_,_,c=>by grind [List.zipWith_nil_left,WA]
 |[],_::_,_,_,_,h,_=>by simp at h
 |_::_,[],_,_,_,h,_=>by simp at h
 |a::A,b::B,[],_,_,_,c=>by grind [WA]
 |a::A,b::B,f::fs,h1,h2,hl,c=>by
  have e:=OT (A:=A) (B:=B) (fs:=fs) (fun X d=>h1 X (Za _ d)) (fun X d=>h2 X (Za _ d)) (by simpa using hl) c;simp only[Zz,WA];rw[VG _ _ _ _ (Zf _) (h1 a (Zc ..)) (h2 b (Zc ..)),e];grind
theorem sc:∀{A fs} (b:P'->Rat),WA (A.map WE) fs b= -WA A fs b
 |[],_,b=>by grind [WA]
 |a::A,[],b=>by grind [WA]
 |a::A,f::fs,b=>by
  simp only[Zt,WA];rw[T4,sc];grind
theorem nb {fs}{i}{f}(b:fs[i]? =some f)(x)(a:P'->Rat):WA ((List.replicate fs.length []).set i [x]) fs a=x.1*XZ f fun k=>a (Xg x.2 k):=by
 have h:=Ql (qs:=List.replicate fs.length []) (q:=[]) (q2:=[x]) (i:=i) (by grind) b a
 grind [Qn,XZ]
section
variable {o:M'}{w:P'}{h V:Nat}{fs:S'}{f g:I'}{s t:Qm}{us vs:I'}{n k i j:Nat}{tq Qs:S'}{D C:Nat}
theorem zW.pX (P:zW o w h fs (s,f,us,0) (t,g,vs,0) n k tq Qs D C):Pl [((s.1⁻¹:Rat),XO (XM s.2 t.2) s.2)]:=O6 (bo P.ok.t0) (Va (Q9 P.hd.s8 P.he.s8) P.hd.s8)
theorem zW.pY (P:zW o w h fs (s,f,us,0) (t,g,vs,0) n k tq Qs D C):Pl [((-t.1⁻¹:Rat),XO (XM s.2 t.2) t.2)]:=O6 (fun e=>bo P.ok.s0 (by grind)) (Va (Q9 P.hd.s8 P.he.s8) P.he.s8)
theorem zW.pQ (P:zW o w h fs (s,f,us,0) (t,g,vs,0) n k tq Qs D C)(H:aD o w h V fs):∀Q∈Qs,Pl Q:=fun Q b=>by
 obtain⟨i,e⟩:=Zv.1 b;have a:i<fs.length:=by rw[<-P.S.mv];exact getElem?_lt' e
 obtain⟨⟨c,m,A,F,-⟩,-⟩:=H.el _ (Ya a);exact(P.S.up i Q _ _ e (Zd a) F.ld).1
theorem TI {c:Prop}[Decidable c]{x}(a:Pl x):Pl (if c then x else[]):=by grind [Pl.nil]
theorem zW.zero (P:zW o w h fs (s,f,us,0) (t,g,vs,0) n k tq Qs D C)(H:aD o w h V fs)(p:fs[i]? =some f)(q:fs[j]? =some g)(c:P'->Rat):WA (jg fs.length i j s t Qs) fs c=0:=by
 have b:∀(i:Nat) (x:Qm),Pl [x]->∀X∈(List.replicate fs.length ([]:I')).set i [x],Q8 X:=fun i x r X a=>by
  rcases List.mem_or_eq_of_mem_set a with e|e
  ·rw[(Yt.1 e).2];exact fun _ h=>by cases h
  ·rw[e];exact r.q8
 have d:=b i _ P.pX;have l:=b j _ P.pY;unfold jg;rw[OT (fun X a=>by
  obtain⟨h,e⟩:=Zv.1 a;obtain⟨A,B,u,v,rfl⟩:=gK e
  grind [R3]) (fun X a=>by
  obtain⟨Q,m,rfl⟩:=ZM.1 a;exact(Vf (P.pQ H Q m)).q8) (by
  rw[List.length_zipWith,Yi,Yi,ZP,YL,P.S.mv,Nat.min_self]),OT d l (by simp),nb p,nb q,sc,<-P.sum c,pk c P.hd P.he]
 grind
structure M7 (w:P')(h:Nat)(fs:S')(W:Nat)(L:S'):Prop where
 len:L.length=fs.length
 pl:∀X∈L,Pl X
 ln:∀X∈L,X.length<=212
 fr:∃D M,0<D/\D<=M/\2*M<=32^(214*h+3)/\∀X∈L,W8 D M X
 mm:∀(i:Nat) (X f:I'),L[i]? =some X->fs[i]? =some f->∀u∈X,∀v∈f,QJ w W (Xg u.2 v.2)
theorem zW.vec (P:zW o w h fs (s,f,us,0) (t,g,vs,0) n k tq Qs D C)(H:aD o w h V fs)(hf:fs[i]? =some f)(hg:fs[j]? =some g)(a0:i≠j):M7 w h fs (Wu w (XM s.2 t.2)) (jg fs.length i j s t Qs):=by
 have l8:L8 (XM s.2 t.2):=Q9 P.hd.s8 P.he.s8;have s8:L8 s.2:=P.hd.s8;have t8:L8 t.2:=P.he.s8;have a1:Xg (XO (XM s.2 t.2) s.2) s.2=XM s.2 t.2:=by grind [XL,WD,TC]
 have a2:Xg (XO (XM s.2 t.2) t.2) t.2=XM s.2 t.2:=by grind [XL,WD,Sv]
 have hs:XB o f=some s:=P.hd.ld;have ht:XB o g=some t:=P.he.ld;have pl:∀{b:Nat} {X:I'},(jg fs.length i j s t Qs)[b]? =some X->Pl X:=fun{b X} e=>by
  obtain⟨Q,d,rfl⟩:=Pq P.S.mv e;exact((TI P.pX).add (TI P.pY)).add (Vf (P.pQ H Q (Zh d)))
 refine⟨C9 P.S.mv,fun X B=> ?_,fun X B=> ?_,?_,fun b X p e q u hu v hv=> ?_⟩
 ·grind [Zv]
 ·obtain⟨b,e⟩:=Zv.1 B;obtain⟨Q,d,rfl⟩:=Pq P.S.mv e;have q1:=P.qln Q (Zh d);have n1:(WE Q).length=Q.length:=by grind [WE,X2]
  have b1:=UY _ (X8 (if b=i then[(s.1⁻¹,XO (XM s.2 t.2) s.2)]else[]) (if b=j then[(-t.1⁻¹,XO (XM s.2 t.2) t.2)]else[])) (WE Q) (Zf _);have b2:=UY _ (if b=i then[((s.1⁻¹:Rat),XO (XM s.2 t.2) s.2)]else[]) (if b=j then[((-t.1⁻¹:Rat),XO (XM s.2 t.2) t.2)]else[]) (Zf _)
  grind
 ·
  obtain⟨⟨lc,m,A,F,hA⟩,-⟩:=H.el f (Zh hf);obtain⟨⟨W,m',c,Y,R⟩,-⟩:=H.el g (Zh hg);have es:s=(lc,m):=by have:=F.ld;grind
  have et:t=(W,m'):=by have:=Y.ld;grind
  obtain⟨E,e1,e2,e3,-⟩:=F.cf;obtain⟨a,J,l,K,-⟩:=Y.cf;have N:Fr E A s.1⁻¹:=by rw[es];exact e3
  have O:Fr a c t.1⁻¹:=by rw[et];exact K
  have D0:=P.D0;have DC:=P.DC;have I:=P.C32;refine⟨D*(E*a),3*(C*(A*c)),ZV D0 (ZV e1 J),?_,?_,fun X B=> ?_⟩
  ·have h1:D*(E*a)<=C*(A*c):=ZA DC (ZA e2 l);omega
  ·have h1:2*C*(2*A*(2*c))<=32^(212*h+1)*(32^h*32^h):=ZA I (ZA hA R);rw[<-Ye,<-Ye]at h1
   grind
  ·obtain⟨b,e⟩:=Zv.1 B;obtain⟨Q,d,rfl⟩:=Pq P.S.mv e;have G:=P.pQ H Q (Zh d);have x1:Fr (D*(E*a)) (C*(A*c)) s.1⁻¹:=by
    have:=Fr.scale (E:=D*a) N;rw[YD D E a];exact this.mono (by simp_all [YD,ZA])
   have x2:Fr (D*(E*a)) (C*(A*c)) (-t.1⁻¹):=by
    have:=Fr.neg (Fr.scale (E:=D*E) O);rw[show D*(E*a)=a*(D*E)by grind];exact this.mono (by rw[ZT c,Yn];simp_all [ZA])
   have x3:W8 (D*(E*a)) (C*(A*c)) (WE Q):=(W8.WE ((P.fr Q (Zh d)).scale (E*a))).mono (ZE _ (ZA e2 l));have y1:W8 (D*(E*a)) (C*(A*c)) (if b=i then[(s.1⁻¹,XO (XM s.2 t.2) s.2)]else[]):=fun x z=>by
    grind
   have y2:W8 (D*(E*a)) (C*(A*c)) (if b=j then[(-t.1⁻¹,XO (XM s.2 t.2) t.2)]else[]):=fun x z=>by
    grind
   exact(W8.X8 ((TI P.pX).add (TI P.pY)).q8 (Vf G).q8 (W8.X8 (TI P.pX).q8 (TI P.pY).q8 y1 y2) x3).mono (by omega)
 ·obtain⟨Q,d,rfl⟩:=Pq P.S.mv e;have M:=Zh q;have G:=P.pQ H Q (Zh d);have pf:=H.DQ p M;obtain⟨r,T⟩:∃r,XB o p=some r:=by
   obtain⟨⟨_,_,_,F,_⟩,_⟩:=H.el p M;exact⟨_,F.ld⟩
  have r8:L8 r.2:=(Xy pf T).2.1;have a3:=((H.el p M).wl r T).2.2 v hv;have v8:=pf.q8 v hv;have key:QJ w (Wu w (XM s.2 t.2)) (Xg u.2 r.2)/\L8 u.2:=by
   have u8:=(((TI P.pX).add (TI P.pY)).add (Vf G)).q8 u hu;refine⟨?_,u8⟩;rcases WC _ (Zf _) ((TI P.pX).add (TI P.pY)).q8 (Vf G).q8 hu with⟨y,U,Z⟩|⟨y,U,Z⟩
   ·rcases WC _ (Zf _) (TI P.pX).q8 (TI P.pY).q8 U with⟨x,z,L⟩|⟨x,z,L⟩
    ·grind
    grind
   ·obtain⟨x,z,L,-⟩:=RF U;rw[<-Z,L];exact(ah H.w8 H.wp ((P.S.up b Q p r d q T).2 x z).1).1
  grind [Wr,Wo]
end
theorem Ea (Q):(WE Q).length=Q.length:=by unfold WE X2;rw[ZP]
section
variable {B:Xq}{o:M'}{w:P'}{h V:Nat}{fs:S'}{lo G:PL}{gs:N'}
end
theorem tN {us}(k:Q8 us){x}:∀{f c},Q8 f->Q8 c->x∈Wy c f us->(∃a∈c,a.2=x.2)\/∃t∈f,∃u∈us,x.2=Xg t.2 u.2
 |[],c,_,_,h=>.inl ⟨x,by unfold Wy at h;exact h,rfl⟩
 |t::f,c,ht,ha,h=>by
  unfold Wy at h;have l:=Ud (z:=t.1) ht.head k;rcases tN k ht.tail (R3 ha l) h with⟨a,j,d⟩|⟨n,j,d⟩
  ·rcases WC _ (Zf _) ha l j with⟨b,g,i⟩|⟨b,g,i⟩
   ·exact .inl ⟨b,g,i.trans d⟩
   ·obtain⟨u,m,e,-⟩:=WZ g;exact .inr ⟨t,Zc ..,u,m,by rw[<-d,<-i,e]⟩
  ·exact .inr ⟨n,Za _ j,d⟩
structure L3 (w:P')(W D E a b:Nat)(q f:I'):Prop where
 pq:Pl q
 pf:Pl f
 fq:W8 D a q
 ff:W8 E b f
 lq:q.length<=212
 lf:f.length<=200
 mm:∀u∈q,∀v∈f,QJ w W (Xg u.2 v.2)
theorem yA {B}(y:q7 B){w}(p:w.length=8)(s:∀x∈w,0<x){W D E a b C k}(I:W<=65535)(F:(allM w W).length<=210)(g:xR D E a b C k)(S:212*(200*(a*b))<=C):∀{n fs} {lq N} {acc} {ra} {c},XE (L3 w W D E a b) n fs->VV lq n->VV N fs->PQ ra acc->Pl acc->(∀u∈acc,QJ w W u.2)->W8 (D*E) c acc->c+n.length*(212*(a*b))<=C->
  ∃o r,(XT B fun E _=>KJ E ra lq N o)/\PQ o r/\Pl r/\∀i,XZ r i=XZ acc i+WA n fs i
 |[],_,_,_,acc,ra,c,.nil,.nil,.nil,h3,pa,_,_,_=>⟨ra,acc,XT.of fun _ _=>.nil ra,h3,pa,fun i=>by simp only[WA];grind⟩
 |q::n,f::fs,_,_,acc,ra,c,.cons hM hA,.cons q1 q2,.cons f1 f2,h3,pa,J,fa,hc=>by
  rw[Zj,ZX,Yf]at hc;have T:0<D*E:=ZV g.d1 g.d2;have O:∀{l:I'} {G:Nat},W8 (D*E) G l->G<=C->Sz l:=fun U z t d=>(U t d).sq g.k7 T g.dd z g.C
  have lq:=hM.lq;have M:=hM.lf;have Q:f.length*(a*b)<=200*(a*b):=Zm _ M;have h2:q.length*(f.length*(a*b))<=212*(200*(a*b)):=ZA lq Q;have R:q.length*(a*b)<=212*(a*b):=Zm _ lq;have h4:q.length*f.length<=212*200:=ZA lq M;obtain⟨x,X,Y⟩:=nG y g q1 f1 hM.fq hM.ff hM.pq.dc.nz hM.pf.dc (fun t d u j=>(hM.mm t d u j).ok p s I) (by omega) (by omega) (by omega) (by omega);have m:=Rc hM.pq hM.pf;have L:∀u∈Wy [] q f,QJ w W u.2:=fun u j=>by
   rcases tN hM.pf.q8 hM.pq.q8 (fun _ h=>by cases h) j with⟨_,h,_⟩|⟨t,d,v,V,e⟩
   ·cases h
   ·rw[e];exact hM.mm t d v V
  have H:W8 (D*E) (q.length*(a*b)) (Wy [] q f):=(On (c:=0) hM.pf.q8 hM.ff hM.pq.q8 (fun _ h=>by cases h) hM.fq (fun _ h=>by cases h)).mono (by omega);have la:=O7 p s pa J;have lm:=O7 p s m L;obtain⟨r',Z,k4⟩:=eC y.toStd h3 (lq:=.Xl x) ⟨x,.Xl,Y⟩ (O fa (by omega)) (O H (by omega)) (by omega) (by omega);have A:∀u∈X8 acc (Wy [] q f),QJ w W u.2:=fun u j=>by
   rcases WC _ (Zf _) pa.q8 m.q8 j with⟨t,d,e⟩|⟨t,d,e⟩
   ·rw[<-e];exact J t d
   ·rw[<-e];exact L t d
  obtain⟨o,r,k5,k6,k7,k8⟩:=yA y p s I F g S hA q2 f2 (ra:=.Xl r') ⟨_,.Xl,k4⟩ (pa.add m) A (W8.X8 pa.q8 m.q8 fa H) (by omega);refine⟨o,r,(k5.and (X.Xk.and Z.Xk)).mono fun E K ⟨P,e1,e2⟩=>.cons e1 e2 P,k6,k7,fun i=> ?_⟩;rw[k8 i,VG _ _ _ _ (Zf _) pa.q8 m.q8,N4 hM.pq hM.pf];simp only[WA];grind
theorem qQ {o:M'}{w:P'}{h V:Nat}:∀{fs:S'},(∀f∈fs,He o w h V f)->∃E M,0<E/\E<=M/\2*M<=32^(h*fs.length+1)/\∀f∈fs,W8 E M f
 |[],_=>⟨1,1,by decide,by decide,by rw[Zr,Nat.mul_zero];decide,fun _ h=>by cases h⟩
 |f::fs,H=>by
  obtain⟨E,M,e1,e2,i,j⟩:=qQ (fs:=fs) fun g a=>H g (Za _ a)
  obtain⟨D,A,c,b,d,e⟩:=(H f (Zc ..)).cd;refine⟨D*E,A*M,ZV c e1,ZA b e2,?_,fun g a=> ?_⟩
  ·have k:2*A*(2*M)<=32^h*32^(h*fs.length+1):=ZA d i;rw[<-Ye]at k;have l:2*A*(2*M)=4*(A*M):=by rw[Yn,YD A 2];omega
   rw[Zj,Nat.mul_succ,show h*fs.length+h+1=h+(h*fs.length+1)by omega];omega
  ·rcases Zk.1 a with rfl|a
   ·exact(e.scale E).mono (ZE _ e2)
   ·rw[ZT D,ZT A];exact((j g a).scale D).mono (ZE _ b)
theorem zQ {d e:Type}{R:d->e->Prop}:∀{xs:List d} {c:List e},xs.length=c.length->(∀(i:Nat) (x:d) (y:e),xs[i]? =some x->c[i]? =some y->R x y)->XE R xs c
 |[],[],_,_=>.nil
 |[],_::_,h,_=>by simp at h
 |_::_,[],h,_=>by simp at h
 |x::xs,y::c,h,H=>.cons (H 0 x y rfl rfl) (zQ (by simpa using h) fun i a b f g=>H (i+1) a b (by simpa using f) (by simpa using g))
theorem Hk {B}(b:q7 B){Q L g}{f e}(m:Sl Q (Xf f))(l:Sl L (Xf e))(i:f.length=e.length)(j:Sl g [])(h:Xv B 39 [.one Q,.one L] (.Wd [.one g,.one (La0 0)])):Xv B 13 [.one Q,.one L] (.one (.bool true)):=by
 have c:=m.len;have d:=l.len;have k:=j.len;rw[Xt]at c d;refine Xv.of (b.toStd.Wa _ _ rfl) ((h.Xk.and b.toStd.Xk).mono fun E K ⟨e1,a⟩=> ?_);simp+decide only[Xo,Xs,Vv,reduceIte,Nat.reduceAdd,x13,a,X3,c,d,i,e1,k]
section
variable {B:Xq}{o:M'}{w:P'}{h V W:Nat}{fs L:S'}{G X:PL}{gs xs:N'}
theorem aD.isX (l:q7 B)(H:aD o w h V fs)(p:Sl G (Xf gs))(b:VV gs fs)(q:Sl X (Xf xs))(a:VV xs L)(d:L.length=fs.length)(pl:∀X∈L,Pl X)(ln:∀X∈L,X.length<=212){D N g:Nat}(t:0<D)(z:D<=N)(A:2*N<=32^g)(hg:g<=1000000000000)(C:∀X∈L,W8 D N X)(mm:∀(i:Nat) (X f:I'),L[i]? =some X->fs[i]? =some f->∀u∈X,∀v∈f,QJ w W (Xg u.2 v.2))(hW:W<=200)(m:(allM w W).length<=210)(hz:∀s,WA L fs s=0):Xv B 13 [.one X,.one G] (.one (.bool true)):=by
 obtain⟨E,M,e1,e2,F,I⟩:=qQ H.el;have e:=H.ln;have hh:=H.hh;have lx:=a.length;have lg:=b.length;have hm:h*fs.length<=h*41:=ZE _ e;have Q:2*N*(2*M)<=32^g*32^(h*fs.length+1):=ZA A F;rw[<-Ye]at Q;have h2:2*N*(2*M)=4*(N*M):=by rw[Yn,YD N 2];omega
 have R:(32:Nat)^(g+(h*fs.length+1))*32^4<=32^(g+41*h+5):=by
  rw[<-Ye];exact Z5 (by decide) (by omega)
 have S:(32:Nat)^4=1048576:=by decide
 rw[S]at R;obtain⟨k,k1,k2⟩:=yE (h:=g+41*h+5) (by omega);have n:1<=N*M:=ZV (by omega) (by omega);have Z:N<=N*M:=Z1 _ (by omega);have Y:M<=N*M:=Yz _ (by omega);have U:D*E<=N*M:=ZA z e2;have mb:xR D E N M (1048576*(N*M)) k:=⟨k1,t,e1,by omega,by omega,by omega,by omega⟩;have T:XE (L3 w W D E N M) L fs:=zQ d fun i x y a j=>⟨pl x (Zh a),H.DQ y (Zh j),C x (Zh a),I y (Zh j),ln x (Zh a),(H.el y (Zh j)).ln,mm i x y a j⟩
 have hL:L.length*(212*(N*M))<=41*(212*(N*M)):=Zm _ (by omega);obtain⟨rf,r,J,K,O,P⟩:=yA l H.w8 H.wp (by omega) m mb (by omega) T a b (acc:=[]) (ra:=.Xp) (c:=0) ⟨[],.nil,.nil⟩ Pl.nil (fun _ h=>by cases h) (fun _ h=>by cases h) (by omega);have hr:r=[]:=rI O fun s=>by rw[P,hz];simp only[XZ];grind
 subst hr;obtain⟨es,s1,p1⟩:=K;cases p1;exact Hk l q p (by omega) s1 (wj l.toStd q p (by omega) (by omega) J)
end
