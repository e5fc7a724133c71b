/- Division by the program and by the reference, side by side: plain facts. -/
import Derived.Test.YtidginchkjhobaaGreatGrC
namespace Go.Ev
open Go.Proofs.YtidginchkjhobaaGreat
theorem N7 {c d}(h:Nz c)(k:Nz d)(e:∀g,XZ c g=XZ d g):c.Perm d:=by
 have f:∀{l:I'},(l.map (·.2)).Nodup->l.Nodup:=fun{l} h=>by
  rw[List.nodup_iff_pairwise_ne,List.pairwise_map]at h;exact h.imp fun a e=>a (congrArg Prod.snd e)
 rw[List.perm_ext_iff_of_nodup (f h.nd) (f k.nd)];exact fun x=>⟨fun b=>h.same k (fun m _=>by rw[Wm,Wm,e]) b,fun b=>k.same h (fun m _=>by rw[Wm,Wm,e]) b⟩
theorem rI {f}(h:Pl f)(e:∀a,XZ f a=0):f=[]:=Ph.ext h.dc .nil fun m=>by rw[Wm,e,du]
theorem O6 {t}(h0:t.1≠0)(b:L8 t.2):Pl [t]:=⟨⟨fun x a=>by grind,List.pairwise_singleton ..⟩,fun x a=>by grind⟩
theorem Hj {o}{left p}{t}(c:Pl left)(b:PO o (t::p))(a:left.Perm (t::p)):XB o left=some t:=by
 cases h:XB o left with
 |none=>
  have:=Vy h
  simp_all
 |some s=>
  obtain⟨f,g,j,i⟩:=Xy c h;have d:t∈left:=a.mem_iff.2 (Zc ..);rcases i t d with e|e
  ·rw[e]
  ·rcases Zk.1 (a.mem_iff.1 f)with e2|e2
   ·rw[e2]
   ·have:=(Zu.1 b.pw).1 s e2;exact absurd e (this.asymm g (b.q8 t (Zc ..)))
theorem Q4.perm {a us}(h:Q4 us)(p:a.Perm us):Q4 a:=⟨fun x b=>h.1 x (p.mem_iff.1 b),by rw[p.length_eq];exact h.2⟩
structure Y1 (o:M')(fs:S')(ds:List Dv):Prop where
 at_:∀(j:Nat) (d:Dv),ds[j]? =some d->fs[d.2.2.2]? =some d.2.1
 inj:∀(i j:Nat) (d e:Dv),ds[i]? =some d->ds[j]? =some e->d.2.2.2=e.2.2.2->i=j
 none_:∀m,Sc m ds 0=none->WW o m fs 0=none
 some_ :∀m (j:Nat) (d:Dv),Sc m ds 0=some j->ds[j]? =some d->WW o m fs 0=some d.2.2.2
structure FP (k:Nat)(l0:J')(fs:S')(ds:List Dv)(p:I')(tq:S')(tr:I')(left:I')(Qs:S')(R:I'):Prop where
 pl:Pl left
 le:∀φ,XZ left φ=XZ p φ
 KD:Pl R
 rR:∀φ,XZ R φ=XZ tr φ
 len:Qs.length=fs.length
 at_:∀(j:Nat) (d:Dv) (q:I'),ds[j]? =some d->tq[j]? =some q->∃Q,Qs[d.2.2.2]? =some Q/\Pl Q/\∀φ,XZ Q φ=XZ q φ
 up:∀(j:Nat) (d:Dv) (q:I'),ds[j]? =some d->tq[j]? =some q->∀u∈q,Xg u.2 d.1.2∈l0/\Bq k u.1
 Lv:∀i,(∀(j:Nat) (d:Dv),ds[j]? =some d->d.2.2.2≠i)->i<fs.length->Qs[i]? =some []
theorem bW {o}{w}{W a k}{Y}{z}(E:Cx o w W a k Y z)(fi:Y1 o Y z){l0}:∀l,F7 o w W l->(∀x∈l,x∈l0)->l.length<49000->∀{p} {H} {I} {C},PO o p->(∀u∈p,u.2∈l)->Cf C p->1<=C->C*(2*a)^l.length*a<4294967296^k->QI o z l H->RI o z l I->
  ∀{left R} {V},FP k l0 Y z p H I left V R->
  ∃n r f v X,dI o Sq Q4 XA z false n p H I r f/\QI o z [] r/\RI o z [] f/\fI o Q4 XA Y left V R v X/\FP k l0 Y z [] r f [] v X/\UP o Y (fun n=>n∈l) fun B=>XZ p B-(XZ f B-XZ I B)
 |l,_,_,_,[],H,I,_,_,_,_,_,_,hq,G,left,R,V,rel=>by
  have O:left=[]:=rI rel.pl fun B=>by rw[rel.le];rfl
  subst O;exact⟨0,H,I,V,R,.done,hq.sub (fun _ h=>by cases h) (Zw _),G.sub (fun _ h=>by cases h) (Zw _),.done,rel,.zero fun B=>by simp only[XZ];grind⟩
 |[],_,_,_,t::p,_,_,_,_,hm,_,_,_,_,_,_,_,_,_=>by grind
 |δ::l,O,h00,hln,t::p,H,I,C,hp,hm,hC,hC1,T,hq,G,left,R,V,rel=>by
  obtain⟨b1,b2⟩:=tz O hp hm;have a2:∀x∈l,x∈l0:=fun x s=>h00 x (Za _ s)
  have K:=O.tail;have b5:=O.wY δ (Zc ..);have p1:=(Zu.1 O.dc).1;have a1:=E.a1;simp only[Zj]at hln T;have a4:QI o z l H:=hq.sub (fun x s=>Za _ s) (by simp);have a5:RI o z l I:=G.sub (fun x s=>Za _ s) (by simp);have a0:=Z2 (yC (C:=C) a1 l.length) T;have b0:=Z2 (yD (C:=C) a1 (l.length+1)) T;by_cases ht:t.2=δ
  ·have b4:=hp.q8 t (Zc ..);have b3:=hp.nz t (Zc ..);have a9:left.Perm (t::p):=N7 rel.pl.Sk hp.Sk rel.le;have J:=Hj rel.pl hp a9;have e4:C<=C*a:=Z1 _ a1;have c0:Sz (t::p):=Iy E.k7 hC (by omega);have e3:(t::p).length<=l.length+1:=PO.eI (l:=δ::l) O.dc (fun n L=>(O.wY n L).1) hp hm;have b9:Q4 left:=Q4.perm ⟨c0,by omega⟩ a9;have d2:R.Perm I:=N7 rel.KD.Sk G.Sk rel.rR;have e1:Q4 R:=Q4.perm ⟨G.sz,by have:=G.len;omega⟩ d2;have st:Sq t.1:=c0 t (Zc ..);have U:∀{x:Qm},Sq x.1->Q4 [x]:=fun{x} h=>⟨fun y hy=>by grind,by simp⟩
   have a6:=O6 b3 b4;cases hf:Sc t.2 z 0 with
   |none=>
    have d5:RI o z l (I++[t]):=by
     have e5:=G.len;refine⟨yN G.Sk b3 b4 fun u b e=> ?_,G.sz.snoc st,fun u b x s=> ?_,?_,fun u b d hd=> ?_⟩
     ·have:=G.lt u b δ (Zc ..)
      grind [Wz.vD]
     ·rcases ZS.1 b with b|b
      ·exact a5.lt u b x s
      grind
     ·grind
     ·rcases ZS.1 b with b|b
      ·exact G.nd u b d hd
      grind [Ss]
    have N:FP k l0 Y z p H (I++[t]) (X8 left (WE [t])) V (X8 R [t]):=by
     have pn:=Vf a6;refine⟨rel.pl.add pn,fun B=> ?_,rel.KD.add a6,fun B=> ?_,rel.len,rel.at_,rel.up,rel.Lv⟩
     ·rw[VG B _ _ _ (Zf _) rel.pl.q8 pn.q8,T4,rel.le];simp only[XZ];grind
     ·rw[VG B _ _ _ (Zf _) rel.KD.q8 a6.q8,rel.rR,R4]
    obtain⟨n,r,f,v,X,k1,k2,k3,k4,k5,k6⟩:=bW E fi l K a2 (by omega) hp.tail b1 (hC.sub fun x s=>Za _ s) hC1 a0 a4 d5 N;exact⟨n+1,r,f,v,X,.Ds rfl ⟨G.sz,by have:=G.len;omega⟩ hf k1,k2,k3,.rem b9 e1 (U st) J (fi.none_ _ hf) k4,k5,(k6.mono fun n L=>Za _ L).congr fun B=>by grind [R4,XZ]⟩
   |some j=>
    obtain⟨d,f1,F,f3,f4⟩:=RN hf;rw[Nat.sub_zero]at F;have c2:=f3;rw[ht]at f3;have a8:=Zh F;have D:=E.dv d a8;have S:=step E b5 (fun n L=>(K.wY n L).1) p1 (fun n L Z=>(Zk.1 (O.cl δ (Zc ..) n L Z)).resolve_left Z.ne) K.dc (by omega) hp ht b1 hC b0 hC1 a8 f3;obtain⟨q,P⟩:∃q,H[j]? =some q:=⟨_,Zd (by rw[hq.len];grind)⟩;obtain⟨n1,n2,n3,n4⟩:=hq.at_ j q d P F;have M:jN false H j (We t d.1)=H.set j (q++[We t d.1]):=by simp only[jN,P]
    have d4:QI o z l (jN false H j (We t d.1)):=by
     rw[M];refine⟨by rw[Yi];exact hq.len,fun i q' d' A g=> ?_⟩;rw[List.getElem?_set]at A;by_cases m:j=i
     ·subst m;rw[if_pos rfl]at A;split at A
      ·cases A;rw[F]at g;cases g;refine⟨yN n1 S.c9 S.m8 fun u b e=> ?_,n2.snoc (S.c5.sq E.k7),fun u b x s=> ?_,?_⟩
       ·have:=n3 u b δ (Zc ..);rw[e,S.ms]at this;exact Wz.vD this
       ·rcases ZS.1 b with b|b
        ·grind
        ·simp only[Zk,ZQ,or_false]at b;subst b;rw[S.ms];exact p1 x s
       grind
      ·cases A
     ·rw[if_neg m]at A;exact a4.at_ i q' d' A g
    obtain⟨Q,q1,q2,q3⟩:=rel.at_ j d q F P;have d1:Q.Perm q:=N7 q2.Sk n1 q3;have d9:Q4 Q:=Q4.perm ⟨n2,by omega⟩ d1;have b8:Pl [We t d.1]:=O6 S.c9 S.m8;have d3:=fi.at_ j d F;have e0:Q4 d.2.1:=Q4.perm (us:=d.1::d.2.2.1) ⟨fun x s=>by
     rcases Zk.1 s with rfl|s
     ·exact S.c4
     ·exact S.c6.1 x s,by rw[D.perm.length_eq];exact D.len⟩ D.perm.symm
    have e7:(We t d.1).1*d.1.1=t.1:=by
     show t.1 / d.1.1*d.1.1=t.1;have:=S.c8
     grind
    have b6:∀u∈d.2.1,u=d.1\/u∈d.2.2.1:=fun u b=>Zk.1 (D.perm.mem_iff.2 b)
    have e2:Q4 (XD (We t d.1).1 (We t d.1).2 d.2.1):=⟨fun x s=>by
     unfold XD at s;obtain⟨u,b,rfl⟩:=ZM.1 s;rcases b6 u b with rfl|b
     ·grind
     ·have:=(S.c7 u b).2.2.neg
      grind,by unfold XD;rw[ZP];exact D.len⟩
    have d7:∀u∈d.2.1,XA (Xg (We t d.1).2 u.2):=fun u b=>by
     rcases b6 u b with rfl|b
     ·rw[S.ms];exact b5.ok E.w8 E.wp E.Y0
     ·rw[XL];exact(S.c7 u b).1
    have d8:=Ve S.c9 S.m8 D.pl;have b7:=Vf d8;have a7:d.2.2.2<V.length:=(Zg.1 q1).1;have N:FP k l0 Y z (T7 o (-(We t d.1).1) (We t d.1).2 p d.2.2.1) (jN false H j (We t d.1)) I (X8 left (WE (XD (We t d.1).1 (We t d.1).2 d.2.1))) (V.set d.2.2.2 (X8 Q [We t d.1])) R:=by
     rw[M];refine⟨rel.pl.add b7,fun B=> ?_,rel.KD,rel.rR,by rw[Yi];exact rel.len,fun i e q' A g=> ?_,fun i e q' A g=> ?_,fun i hi a3=> ?_⟩
     ·rw[VG B _ _ _ (Zf _) rel.pl.q8 b7.q8,T4,Ux,rel.le,S.eq]
      grind
     ·rw[List.getElem?_set]at g;by_cases m:j=i
      ·subst m;rw[F]at A;cases A;rw[if_pos rfl]at g;split at g
       ·cases g;refine⟨X8 Q [We t d.1],List.getElem?_set_self a7,q2.add b8,fun B=> ?_⟩;rw[VG B _ _ _ (Zf _) q2.q8 b8.q8,q3,R4]
       ·cases g
      ·rw[if_neg m]at g;obtain⟨Q',y1,y2,y3⟩:=rel.at_ i e q' A g;have e6:d.2.2.2≠e.2.2.2:=fun h=>m (fi.inj j i d e F A h)
       grind
     ·rw[List.getElem?_set]at g;by_cases m:j=i
      ·subst m;rw[F]at A;cases A;rw[if_pos rfl]at g;split at g
       ·cases g;intro u b;rcases ZS.1 b with b|b
        ·exact rel.up j d q F P u b
        ·obtain rfl:=Yj.1 b;exact⟨by rw[S.ms];grind,S.c5⟩
       ·cases g
      ·rw[if_neg m]at g;exact rel.up i e q' A g
     ·rw[ZY (hi j d F)];exact rel.Lv i hi a3
    have d0:1<=2*a*C:=ZV (by omega) hC1;obtain⟨n,r,f,v,X,k1,k2,k3,k4,k5,k6⟩:=bW E fi l K a2 (by omega) S.po S.mem S.cf d0 (by rw[tx];exact T) d4 a5 N;refine⟨n+1,r,f,v,X,.div S.c1 S.c3 S.c4 (S.c5.sq E.k7) S.c6 S.c7 S.c8 S.c9 (fun q d6=> ?_) hf F k1,k2,k3,.div b9 e0 (U st) (U S.c4) (U (S.c5.sq E.k7)) d9 e2 S.c8 S.c9 d7 J (fi.some_ _ j d hf F) d3 D.ld c2 q1 k4,k5,UP.add (c:=(We t d.1).1) D.mem D.ld S.m8 (by rw[S.ms];grind) (k6.mono fun n L=>Za _ L) fun B=>by rw[S.eq];grind⟩;obtain⟨i,hi⟩:=Zv.1 d6;have a3:i<z.length:=by rw[<-hq.len];grind
    obtain⟨-,m2,-,m4⟩:=hq.at_ i q _ hi (Zd a3);exact⟨m2,by omega⟩
  ·obtain⟨n,r,f,v,X,k1,k2,k3,k4,k5,k6⟩:=bW E fi l K a2 (by omega) hp (b2 ht) hC hC1 a0 a4 a5 rel;exact⟨n,r,f,v,X,k1,k2,k3,k4,k5,k6.mono fun n L=>Za _ L⟩
theorem xG (o:M'):∀(a:S') (i j:Nat) (d:Dv),(Vl o a i)[j]? =some d->i<=d.2.2.2/\a[d.2.2.2-i]? =some d.2.1
 |[],i,j,d,h=>by simp[Vl]at h
 |f::a,i,j,d,h=>by
  have b:=fun j h=>xG o a (i+1) j d h
  unfold Vl at h
  grind
theorem qG (o:M'):∀(a:S') (i:Nat),(Vl o a i).Pairwise fun d e=>d.2.2.2<e.2.2.2
 |[],i=>by simp[Vl]
 |f::a,i=>by
  have b:=qG o a (i+1);unfold Vl;split
  ·exact b
  ·refine Zu.2 ⟨fun e c=> ?_,b⟩;obtain⟨j,g⟩:=Zv.1 c;have:=(xG o a (i+1) j e g).1
   grind
theorem uK (o)(m):∀a i k j d,(∀f∈a,Pl f)->Sc m (Vl o a i) k=some j->(Vl o a i)[j-k]? =some d->WW o m a i=some d.2.2.2
 |[],i,k,j,d,_,h,_=>by simp[Vl,Sc]at h
 |f::a,i,k,j,d,hp,h,hd=>by
  have r:=fun k=>uK o m a (i+1) k j d (fun g n=>hp g (Za _ n))
  unfold Vl at h hd;unfold WW;cases e:VI o f with
  |nil=>
   rw[e]at h hd;have l:f=[]:=by
    grind [Sh]
   subst l;exact r k h hd
  |cons t s=>
   rw[e]at h hd;have q:=PA (hp f (Zc ..)) e;simp only[q];simp only at h hd;unfold Sc at h;by_cases b:Ww t.2 m=true
   ·grind
   ·rw[if_neg b]at h⊢;have p:k+1<=j:=by
     obtain⟨_,c,-⟩:=RN h;exact c
    grind
theorem ES (o:M'){a:S'}(p:∀f∈a,Pl f):Y1 o a (Vl o a 0):=by
 refine⟨fun j d h=> ?_,fun i j d e c n v=> ?_,fun m h=> ?_,fun m j d c n=>uK o m a 0 0 j d p c (by omega)⟩
 ·have:=(xG o a 0 j d h).2;omega
 ·grind [qG,List.pairwise_iff_getElem]
 ·have w:=Ss h;have key:∀(b:S') (i:Nat),(∀g∈b,∀s,XB o g=some s->Ww s.2 m=false)->WW o m b i=none:=by
   intro b;induction b with
   |nil=>intro i _;rfl
   |cons g b t=>
    intro i k;have u:=t (i+1) fun q l=>k q (Za _ l)
    unfold WW
    grind [Zc]
  refine key a 0 fun g k s r=> ?_
  obtain⟨d,c,n,-⟩:=ij a 0 p g k s r
  grind
theorem yo {Q q}(b:Pl Q)(c:Nz q)(e:∀a,XZ Q a=XZ q a):VI [] q=Q:=
 Ph.ext (Th c).dc.dc b.dc fun m=>by grind [Wm,cp]
theorem er:∀b c a i,(∀d∈b,d.2.2.2≠i)->(O3 b c a)[i]? =a[i]?
 |[],_,_,_,_=>rfl
 |_::_,[],_,_,_=>rfl
 |d::b,q::c,a,i,h=>by
  rw[O3,er b c _ i fun e f=>h e (Za _ f),ZY (h d (Zc ..))]
theorem nD:∀(b:List Dv) (c a:S') (j:Nat) (d:Dv) (q:I'),b.Pairwise (fun d e=>d.2.2.2<e.2.2.2)->b[j]? =some d->c[j]? =some q->d.2.2.2<a.length->(O3 b c a)[d.2.2.2]? =some (VI [] q)
 |[],_,_,j,d,q,_,h,_,_=>by simp at h
 |_::_,[],_,j,d,q,_,_,h,_=>by simp at h
 |e::b,r::c,a,j,d,q,hp,h1,h2,hl=>by
  obtain⟨g,f⟩:=Zu.1 hp;rw[O3];cases j with
  |zero=>
   grind [er]
  |succ j=>
   rw[List.getElem?_cons_succ]at h1 h2;exact nD b c _ j d q f h1 h2 (by grind)
variable {o:M'}{w:P'}
theorem jW (f:w.length=8)(e:∀x∈w,0<x)(V):F7 o w V (TQ o (allM w V)):=by
 have d:∀n∈TQ o (allM w V),QJ w V n:=fun n c=>by
  obtain⟨a,b⟩:=NH (WU.1 c) e;omega
 exact⟨bP fun n c=>(d n (WU.2 c)).1,d,fun g _ n c _=>WU.2 (To (f.trans c.1.symm) e c.2)⟩
structure Mb (k:Nat)(o:M')(l:J')(fs:S')(p:I')(n:Nat)(tq:S')(tr:I')(Qs:S')(R:I'):Prop where
 prog:dI o Sq Q4 XA (Vl o fs 0) false n (VI o p) (List.replicate (Vl o fs 0).length []) [] tq tr
 ref:fI o Q4 XA fs p (List.replicate fs.length []) [] Qs R
 Y8:∀q∈tq,S3 q/\q.length<60000
 Y7:tq.length=(Vl o fs 0).length
 Y6:S3 tr
 Y5:tr.length<60000
 same:O3 (Vl o fs 0) tq (List.replicate fs.length [])=Qs
 rest:VI [] tr=R
 YP:∀q∈Qs,Q4 q
 szr:Q4 R
 up:∀(i:Nat) (Q f:I') (s:Qm),Qs[i]? =some Q->fs[i]? =some f->XB o f=some s->Pl Q/\∀u∈Q,Xg u.2 s.2∈l/\Bq k u.1
 mv:Qs.length=fs.length
 nzr:Nz tr
 nd:∀u∈tr,∀d∈Vl o fs 0,Ww d.1.2 u.2=false
 MM:UP o fs (fun n=>n∈l) fun φ=>XZ p φ-XZ tr φ
theorem uO {a k V C:Nat}{b:S'}(O:Cx o w V a k b (Vl o b 0)){l:J'}(ls:F7 o w V l)(H:l.length<49000){p:I'}(hp:Pl p)(U:∀u∈p,u.2∈l)(hC:Cf C p)(S:1<=C)(Y:C*(2*a)^l.length*a<4294967296^k):∃n F J L R,Mb k o l b p n F J L R:=by
 have P:=ES o O.DQ;have W:QI o (Vl o b 0) l (List.replicate (Vl o b 0).length []):=by
  refine⟨by simp,fun j q d' r g=> ?_⟩;have U:=Zh r;obtain rfl:=(Yt.1 U).2
  grind [Nz.nil,Sz.nil]
 have X:RI o (Vl o b 0) l []:=⟨Nz.nil,Sz.nil,(fun _ h=>by cases h),by simp;omega,(fun _ h=>by cases h)⟩;have a2:∀(j:Nat) (d:Dv),(Vl o b 0)[j]? =some d->d.2.2.2<b.length:=fun j d h=>(Zg.1 (P.at_ j d h)).1
 have I:FP k l b (Vl o b 0) (VI o p) (List.replicate (Vl o b 0).length []) [] p (List.replicate b.length []) []:=by
  refine⟨hp,fun φ=>(cp φ p).symm,Pl.nil,fun _=>rfl,by simp,fun j d q r g=> ?_,fun j d q r g=> ?_,fun i _ y=> ?_⟩
  ·obtain rfl:=(Yt.1 (Zh g)).2
   grind [Pl.nil]
  ·grind
  grind
 obtain⟨n,F,J,L,R,k1,N,z,k4,m,k6⟩:=bW O P (l0:=l) l ls (fun _ h=>h) H (Th hp.Sk) (fun u Z=>U u ((W0 o p).mem_iff.1 Z)) (hC.sub fun t ht=>(W0 o p).mem_iff.1 ht) S Y W X I;have x:∀q∈F,Nz q/\Q4 q:=fun q B=>by
  obtain⟨j,M⟩:=Zv.1 B;have A:j<(Vl o b 0).length:=by rw[<-N.len];grind
  obtain⟨m1,m2,m3,m4⟩:=N.at_ j q _ M (Zd A);exact⟨m1,m2,by simp at m4;omega⟩
 have hR:VI [] J=R:=yo m.KD z.Sk m.rR;have a1:Q4 R:=Q4.perm (us:=J) ⟨z.sz,by have:=z.len;simp at this;omega⟩ (N7 m.KD.Sk z.Sk m.rR);have a0:=qG o b 0;have c:∀i,i<b.length->(∃(j:Nat) (d:Dv) (q:I'),(Vl o b 0)[j]? =some d/\F[j]? =some q/\d.2.2.2=i)\/∀(j:Nat) (d:Dv),(Vl o b 0)[j]? =some d->d.2.2.2≠i:=fun i y=>by
  by_cases h:∃d∈Vl o b 0,d.2.2.2=i
  ·obtain⟨d,hd,rfl⟩:=h;obtain⟨j,M⟩:=Zv.1 hd;have A:=(Zg.1 M).1;exact .inl ⟨j,d,_,M,Zd (by rw[N.len];exact A),rfl⟩
  grind
 have D:O3 (Vl o b 0) F (List.replicate b.length [])=L:=by
  apply List.ext_getElem?;intro i;by_cases y:i<b.length
  ·rcases c i y with⟨j,d,q,r,g,rfl⟩|h
   ·obtain⟨Q,E,G,K⟩:=m.at_ j d q r g;rw[nD _ _ _ j d q a0 r g (by simpa using y),E,yo G (x q (Zh g)).1 K]
   ·rw[er _ _ _ i fun d hd=>by
     grind [Zv],m.Lv i h y,YE,if_pos y]
  ·rw[List.getElem?_eq_none (by grind [nC]),List.getElem?_eq_none (by rw[m.len];omega)]
 refine⟨n,F,J,L,R,k1,k4,fun q B=>⟨(x q B).1.nd,by have:=(x q B).2.2;omega⟩,N.len,z.Sk.nd,by have:=z.len;simp at this;omega,D,hR,fun Q T=> ?_,a1,fun i Q f s T hf hs=> ?_,m.len,z.Sk,z.nd,k6.congr fun φ=>by grind [cp,XZ]⟩
 ·obtain⟨i,y⟩:=Zv.1 T;have v:i<b.length:=by rw[<-m.len];grind
  rcases c i v with⟨j,d,q,r,g,rfl⟩|h
  ·obtain⟨Q',E,G,K⟩:=m.at_ j d q r g;rw[y]at E;cases E;have B:=x q (Zh g);exact Q4.perm B.2 (N7 G.Sk B.1 K)
  ·have:=m.Lv i h v;rw[y]at this;cases this;exact⟨Sz.nil,by simp⟩
 ·have v:i<b.length:=(Zg.1 hf).1;rcases c i v with⟨j,d,q,r,g,rfl⟩|h
  ·obtain⟨Q',E,G,K⟩:=m.at_ j d q r g;rw[T]at E;cases E;have e:=P.at_ j d r;rw[hf]at e;cases e;have e2:=(O.dv d (Zh r)).ld;rw[hs]at e2;cases e2;have pm:=N7 G.Sk (x q (Zh g)).1 K;exact⟨G,fun u Z=>m.up j d q r g u (pm.mem_iff.1 Z)⟩
  ·have:=m.Lv i h v
   grind [Pl.nil]
theorem sj {o}{f}(h:f≠[]):∃s a,VI o f=s::a:=by
 cases b:VI o f with
 |nil=>
  grind [Sh]
 |cons s a=>exact⟨s,a,rfl⟩
variable {o:M'}{w:P'}
