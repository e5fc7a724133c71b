/- Division by the program and by the reference, side by side: plain facts. -/
import Derived.Test.YtidginchkjhobaaGreatGrC
import Derived.Test.YtidginchkjhobaaGreatRDv
namespace Go.Num
open Go.Ev
theorem OB {c d:List Qm}(h:Nz c)(k:Nz d)(e:∀g,Wc c g=Wc d g):c.Perm d:=by
 have f:∀{l:List Qm},(l.map (·.2)).Nodup->l.Nodup:=fun{l} h=>by
  rw[List.nodup_iff_pairwise_ne,List.pairwise_map]at h;exact h.imp fun a e=>a (congrArg Prod.snd e)
 rw[List.perm_ext_iff_of_nodup (f h.nd) (f k.nd)];exact fun x=>⟨fun b=>h.same k (fun m _=>by rw[Ve,Ve,e]) b,fun b=>k.same h (fun m _=>by rw[Ve,Ve,e]) b⟩
theorem w9 {f:List Qm}(h:Pl f)(e:∀a,Wc f a=0):f=[]:=Pv.ext h.dc .nil fun m=>by rw[Ve,e,aI]
theorem kY {t:Qm}(h0:t.1≠0)(b:L8 t.2):Pl [t]:=⟨⟨fun x a=>by rw[Ym.1 a];exact h0,List.pairwise_singleton ..⟩,fun x a=>by rw[Ym.1 a];exact b⟩
theorem BH {o:List (List Int)}{left p:List Qm}{t:Qm}(c:Pl left)(b:PO o (t::p))(a:left.Perm (t::p)):XU o left=some t:=by
 cases h:XU o left with
 |none=>
  have:=Tt h;subst this;have:=a.length_eq;simp at this
 |some s=>
  obtain⟨f,g,j,i⟩:=XW c h;have d:t∈left:=a.mem_iff.2 (Ze ..);rcases i t d with e|e
  ·rw[e]
  ·rcases Zj.1 (a.mem_iff.1 f)with e2|e2
   ·rw[e2]
   ·have:=(Zv.1 b.pw).1 s e2;exact absurd e (this.asymm g (b.q8 t (Ze ..)))
end Go.Num
namespace Go.Proofs.YtidginchkjhobaaGreat
open Go.Ev Go.Num
theorem Pw.perm {a us:List Qm}(h:Pw us)(p:a.Perm us):Pw a:=⟨fun x b=>h.1 x (p.mem_iff.1 b),by rw[p.length_eq];exact h.2⟩
structure Gi (o:List (List Int))(fs:List (List Qm))(ds:List Dv):Prop where
 at_:∀(j:Nat) (d:Dv),ds[j]? =some d->fs[d.2.2.2]? =some d.2.1
 inj:∀(i j:Nat) (d e:Dv),ds[i]? =some d->ds[j]? =some e->d.2.2.2=e.2.2.2->i=j
 none_:∀m,Tw m ds 0=none->Tv o m fs 0=none
 some_ :∀m (j:Nat) (d:Dv),Tw m ds 0=some j->ds[j]? =some d->Tv o m fs 0=some d.2.2.2
structure An (k:Nat)(l0:List (List Nat))(fs:List (List Qm))(ds:List Dv)(p:List Qm)(tq:List (List Qm))(tr:List Qm)(left:List Qm)(Qs:List (List Qm))(R:List Qm):Prop where
 pl:Pl left
 le:∀φ,Wc left φ=Wc p φ
 Ej:Pl R
 rR:∀φ,Wc R φ=Wc tr φ
 len:Qs.length=fs.length
 at_:∀(j:Nat) (d:Dv) (q:List Qm),ds[j]? =some d->tq[j]? =some q->∃Q,Qs[d.2.2.2]? =some Q/\Pl Q/\∀φ,Wc Q φ=Wc q φ
 up:∀(j:Nat) (d:Dv) (q:List Qm),ds[j]? =some d->tq[j]? =some q->∀u∈q,Xg u.2 d.1.2∈l0/\Bq k u.1
 ES:∀i,(∀(j:Nat) (d:Dv),ds[j]? =some d->d.2.2.2≠i)->i<fs.length->Qs[i]? =some []
theorem NY {o:List (List Int)}{w:List Nat}{W a k:Nat}{Y:List (List Qm)}{z:List Dv}(F:Cx o w W a k Y z)(fi:Gi o Y z){l0:List (List Nat)}:∀(l:List (List Nat)),AG o w W l->(∀x∈l,x∈l0)->l.length<49000->∀{p:List Qm} {H:List (List Qm)} {I:List Qm} {C:Nat},PO o p->(∀u∈p,u.2∈l)->Cf C p->1<=C->C*(2*a)^l.length*a<4294967296^k->QI o z l H->RI o z l I->
  ∀{left R:List Qm} {V:List (List Qm)},An k l0 Y z p H I left V R->
  ∃n s f v X,aR o Sq Pw XE z false n p H I s f/\QI o z [] s/\RI o z [] f/\mi o Pw XE Y left V R v X/\An k l0 Y z [] s f [] v X/\Sx o Y (fun n=>n∈l) fun B=>Wc p B-(Wc f B-Wc I B)
 |l,_,_,_,[],H,I,_,_,_,_,_,_,hq,G,left,R,V,rel=>by
  have O:left=[]:=w9 rel.pl fun B=>by rw[rel.le];rfl
  subst O;exact⟨0,H,I,V,R,.done,hq.sub (fun _ h=>by cases h) (Zt _),G.sub (fun _ h=>by cases h) (Zt _),.done,rel,.zero fun B=>by simp only[Wc];grind⟩
 |[],_,_,_,t::p,_,_,_,_,hm,_,_,_,_,_,_,_,_,_=>by have:=hm t (Ze ..);cases this
 |δ::l,O,h00,hln,t::p,H,I,C,hp,hm,hC,hC1,T,hq,G,left,R,V,rel=>by
  obtain⟨b1,b2⟩:=nL O hp hm;have a2:∀x∈l,x∈l0:=fun x g=>h00 x (Zc _ g)
  have K:=O.tail;have b5:=O.AA δ (Ze ..);have p1:=(Zv.1 O.dc).1;have a1:=F.a1;simp only[Zi]at hln T;have a4:QI o z l H:=hq.sub (fun x g=>Zc _ g) (by simp);have a5:RI o z l I:=G.sub (fun x g=>Zc _ g) (by simp);have a0:=Z6 (tw (C:=C) a1 l.length) T;have b0:=Z6 (tx (C:=C) a1 (l.length+1)) T;by_cases ht:t.2=δ
  ·have b4:=hp.q8 t (Ze ..);have b3:=hp.nz t (Ze ..);have a9:left.Perm (t::p):=OB rel.pl.O1 hp.O1 rel.le;have J:=BH rel.pl hp a9;have e7:C<=C*a:=YK _ a1;have c0:Sz (t::p):=CJ F.k7 hC (by omega);have e6:(t::p).length<=l.length+1:=PO.fQ (l:=δ::l) O.dc (fun n L=>(O.AA n L).1) hp hm;have b9:Pw left:=Pw.perm ⟨c0,by omega⟩ a9;have d2:R.Perm I:=OB rel.Ej.O1 G.O1 rel.rR;have e4:Pw R:=Pw.perm ⟨G.sz,by have:=G.len;simp only[Zi]at this;omega⟩ d2;have st:Sq t.1:=c0 t (Ze ..);have U:∀{x:Qm},Sq x.1->Pw [x]:=fun{x} h=>⟨fun y hy=>by rw[Ym.1 hy];exact h,by simp⟩
   have a6:=kY b3 b4;cases hf:Tw t.2 z 0 with
   |none=>
    have d7:RI o z l (I++[t]):=by
     have d4:=G.len;refine⟨tF G.O1 b3 b4 fun u b e=> ?_,G.sz.snoc st,fun u b x g=> ?_,?_,fun u b d hd=> ?_⟩
     ·have:=G.lt u b δ (Ze ..);rw[e,ht]at this;exact WE.zh this
     ·rcases Yc.1 b with b|b
      ·exact a5.lt u b x g
      ·simp only[Zj,Z0,or_false]at b;subst b;rw[ht];exact p1 x g
     ·simp only[Zk,Zi,Zu]at d4⊢;omega
     ·rcases Yc.1 b with b|b
      ·exact G.nd u b d hd
      ·simp only[Zj,Z0,or_false]at b;subst b;exact TC hf d hd
    have N:An k l0 Y z p H (I++[t]) (WB left (U3 [t])) V (WB R [t]):=by
     have pn:=R7 a6;refine⟨rel.pl.add pn,fun B=> ?_,rel.Ej.add a6,fun B=> ?_,rel.len,rel.at_,rel.up,rel.ES⟩
     ·rw[Sy B _ _ _ (Zh _) rel.pl.q8 pn.q8,dT,rel.le];simp only[Wc];grind
     ·rw[Sy B _ _ _ (Zh _) rel.Ej.q8 a6.q8,rel.rR,Rc]
    obtain⟨n,s,f,v,X,k1,k2,k3,k4,k5,k6⟩:=NY F fi l K a2 (by omega) hp.tail b1 (hC.sub fun x g=>Zc _ g) hC1 a0 a4 d7 N;exact⟨n+1,s,f,v,X,.yh rfl ⟨G.sz,by have:=G.len;simp only[Zi]at this;omega⟩ hf k1,k2,k3,.rem b9 e4 (U st) J (fi.none_ _ hf) k4,k5,(k6.mono fun n L=>Zc _ L).congr fun B=>by rw[Rc];simp only[Wc];grind⟩
   |some j=>
    obtain⟨d,f1,E,f3,f4⟩:=SY hf;rw[Nat.sub_zero]at E;have c2:=f3;rw[ht]at f3;have a8:=Zn E;have D:=F.dv d a8;have S:=step F b5 (fun n L=>(K.AA n L).1) p1 (fun n L Z=>(Zj.1 (O.cl δ (Ze ..) n L Z)).resolve_left Z.ne) K.dc (by omega) hp ht b1 hC b0 hC1 a8 f3;obtain⟨q,P⟩:∃q,H[j]? =some q:=⟨_,Zf (by rw[hq.len];exact(Zb.1 E).1)⟩;obtain⟨n1,n2,n3,n4⟩:=hq.at_ j q d P E;have M:fI false H j (XQ t d.1)=H.set j (q++[XQ t d.1]):=by simp only[fI,P]
    have d6:QI o z l (fI false H j (XQ t d.1)):=by
     rw[M];refine⟨by rw[ZT];exact hq.len,fun i q' d' A m=> ?_⟩;rw[Y8]at A;by_cases r:j=i
     ·subst r;rw[if_pos rfl]at A;split at A
      ·cases A;rw[E]at m;cases m;refine⟨tF n1 S.c9 S.m8 fun u b e=> ?_,n2.snoc (S.c5.sq F.k7),fun u b x g=> ?_,?_⟩
       ·have:=n3 u b δ (Ze ..);rw[e,S.ms]at this;exact WE.zh this
       ·rcases Yc.1 b with b|b
        ·exact n3 u b x (Zc _ g)
        ·simp only[Zj,Z0,or_false]at b;subst b;rw[S.ms];exact p1 x g
       ·simp only[Zk,Zi,Zu]at n4⊢;omega
      ·cases A
     ·rw[if_neg r]at A;exact a4.at_ i q' d' A m
    obtain⟨Q,q1,q2,q3⟩:=rel.at_ j d q E P;have d1:Q.Perm q:=OB q2.O1 n1 q3;have e2:Pw Q:=Pw.perm ⟨n2,by omega⟩ d1;have b8:Pl [XQ t d.1]:=kY S.c9 S.m8;have d3:=fi.at_ j d E;have e3:Pw d.2.1:=Pw.perm (us:=d.1::d.2.2.1) ⟨fun x g=>by
     rcases Zj.1 g with rfl|g
     ·exact S.c4
     ·exact S.c6.1 x g,by rw[D.perm.length_eq];exact D.len⟩ D.perm.symm
    have d8:(XQ t d.1).1*d.1.1=t.1:=by
     show t.1 / d.1.1*d.1.1=t.1;have:=S.c8;rw[Rat.div_def,Rat.mul_assoc,Rat.inv_mul_cancel _ S.c8,Rat.mul_one]
    have b6:∀u∈d.2.1,u=d.1\/u∈d.2.2.1:=fun u b=>Zj.1 (D.perm.mem_iff.2 b)
    have e5:Pw (XS (XQ t d.1).1 (XQ t d.1).2 d.2.1):=⟨fun x g=>by
     unfold XS at g;obtain⟨u,b,rfl⟩:=ZQ.1 g;rcases b6 u b with rfl|b
     ·show Sq ((XQ t d.1).1*d.1.1);rw[d8];exact st
     ·have:=(S.c7 u b).2.2.neg;show Sq ((XQ t d.1).1*u.1);have e: -(-(XQ t d.1).1*u.1)=(XQ t d.1).1*u.1:=by grind
      rwa[e]at this,by unfold XS;rw[ZP];exact D.len⟩
    have e0:∀u∈d.2.1,XE (Xg (XQ t d.1).2 u.2):=fun u b=>by
     rcases b6 u b with rfl|b
     ·rw[S.ms];exact b5.ok F.w8 F.wp F.Gh
     ·rw[XP];exact(S.c7 u b).1
    have e1:=SM S.c9 S.m8 D.pl;have b7:=R7 e1;have a7:d.2.2.2<V.length:=(Zb.1 q1).1;have N:An k l0 Y z (Tq o (-(XQ t d.1).1) (XQ t d.1).2 p d.2.2.1) (fI false H j (XQ t d.1)) I (WB left (U3 (XS (XQ t d.1).1 (XQ t d.1).2 d.2.1))) (V.set d.2.2.2 (WB Q [XQ t d.1])) R:=by
     rw[M];refine⟨rel.pl.add b7,fun B=> ?_,rel.Ej,rel.rR,by rw[ZT];exact rel.len,fun i e q' A m=> ?_,fun i e q' A m=> ?_,fun i hi a3=> ?_⟩
     ·rw[Sy B _ _ _ (Zh _) rel.pl.q8 b7.q8,dT,Ro,rel.le,S.eq]
      grind
     ·rw[Y8]at m;by_cases r:j=i
      ·subst r;rw[E]at A;cases A;rw[if_pos rfl]at m;split at m
       ·cases m;refine⟨WB Q [XQ t d.1],YR a7,q2.add b8,fun B=> ?_⟩;rw[Sy B _ _ _ (Zh _) q2.q8 b8.q8,q3,Rc]
       ·cases m
      ·rw[if_neg r]at m;obtain⟨Q',y1,y2,y3⟩:=rel.at_ i e q' A m;have d5:d.2.2.2≠e.2.2.2:=fun h=>r (fi.inj j i d e E A h)
       exact⟨Q',by rw[ZM d5];exact y1,y2,y3⟩
     ·rw[Y8]at m;by_cases r:j=i
      ·subst r;rw[E]at A;cases A;rw[if_pos rfl]at m;split at m
       ·cases m;intro u b;rcases Yc.1 b with b|b
        ·exact rel.up j d q E P u b
        ·obtain rfl:=Ym.1 b;exact⟨by rw[S.ms];exact h00 δ (Ze ..),S.c5⟩
       ·cases m
      ·rw[if_neg r]at m;exact rel.up i e q' A m
     ·rw[ZM (hi j d E)];exact rel.ES i hi a3
    have d0:1<=2*a*C:=Yn (by omega) hC1;obtain⟨n,s,f,v,X,k1,k2,k3,k4,k5,k6⟩:=NY F fi l K a2 (by omega) S.po S.mem S.cf d0 (by rw[nK];exact T) d6 a5 N;refine⟨n+1,s,f,v,X,.div S.c1 S.c3 S.c4 (S.c5.sq F.k7) S.c6 S.c7 S.c8 S.c9 (fun q d9=> ?_) hf E k1,k2,k3,.div b9 e3 (U st) (U S.c4) (U (S.c5.sq F.k7)) e2 e5 S.c8 S.c9 e0 J (fi.some_ _ j d hf E) d3 D.ld c2 q1 k4,k5,Sx.add (c:=(XQ t d.1).1) D.mem D.ld S.m8 (by rw[S.ms];exact Ze ..) (k6.mono fun n L=>Zc _ L) fun B=>by rw[S.eq];grind⟩;obtain⟨i,hi⟩:=ZC.1 d9;have a3:i<z.length:=by rw[<-hq.len];exact(Zb.1 hi).1
    obtain⟨-,m2,-,m4⟩:=hq.at_ i q _ hi (Zf a3);exact⟨m2,by omega⟩
  ·obtain⟨n,s,f,v,X,k1,k2,k3,k4,k5,k6⟩:=NY F fi l K a2 (by omega) hp (b2 ht) hC hC1 a0 a4 a5 rel;exact⟨n,s,f,v,X,k1,k2,k3,k4,k5,k6.mono fun n L=>Zc _ L⟩
theorem rW (o:List (List Int)):∀(c:List (List Qm)) (i j:Nat) (d:Dv),(Ws o c i)[j]? =some d->i<=d.2.2.2/\c[d.2.2.2-i]? =some d.2.1
 |[],i,j,d,h=>by simp[Ws]at h
 |f::c,i,j,d,h=>by
  have e:=fun j h=>rW o c (i+1) j d h
  unfold Ws at h;split at h
  ·obtain⟨a,b⟩:=e j h;refine⟨by omega,?_⟩;rw[show d.2.2.2-i=(d.2.2.2-(i+1))+1 by omega];exact b
  ·cases j with
   |zero=>
    simp only[YZ,Za]at h;subst h;refine⟨Zh _,?_⟩;show(f::c)[i-i]? =some f;rw[YV];rfl
   |succ j=>
    rw[Yr]at h;obtain⟨a,b⟩:=e j h;refine⟨by omega,?_⟩;rw[show d.2.2.2-i=(d.2.2.2-(i+1))+1 by omega];exact b
theorem lP (o:List (List Int)):∀(a:List (List Qm)) (i:Nat),(Ws o a i).Pairwise fun d e=>d.2.2.2<e.2.2.2
 |[],i=>by simp[Ws]
 |f::a,i=>by
  have b:=lP o a (i+1);unfold Ws;split
  ·exact b
  ·refine Zv.2 ⟨fun e c=> ?_,b⟩;obtain⟨j,g⟩:=ZC.1 c;have:=(rW o a (i+1) j e g).1;show i<e.2.2.2;omega
theorem oY (o:List (List Int))(m:List Nat):∀(a:List (List Qm)) (i k j:Nat) (d:Dv),(∀f∈a,Pl f)->Tw m (Ws o a i) k=some j->(Ws o a i)[j-k]? =some d->Tv o m a i=some d.2.2.2
 |[],i,k,j,d,_,h,_=>by simp[Ws,Tw]at h
 |f::a,i,k,j,d,hp,h,hd=>by
  have c:=fun k=>oY o m a (i+1) k j d (fun g p=>hp g (Zc _ p))
  unfold Ws at h hd;unfold Tv;cases e:Vu o f with
  |nil=>
   rw[e]at h hd;have n:f=[]:=by
    have:=Sc o f;rw[e]at this;exact Yq this.symm
   subst n;exact c k h hd
  |cons t s=>
   rw[e]at h hd;have r:=OH (hp f (Ze ..)) e;simp only[r];simp only at h hd;unfold Tw at h;by_cases b:WO t.2 m=true
   ·rw[if_pos b]at h⊢;cases h;rw[YV]at hd;simp only[YZ,Za]at hd;subst hd;rfl
   ·rw[if_neg b]at h⊢;have q:k+1<=j:=by
     obtain⟨_,l,-⟩:=SY h;exact l
    rw[show j-k=(j-(k+1))+1 by omega,Yr]at hd;exact c (k+1) h hd
theorem zy (o:List (List Int)){a:List (List Qm)}(t:∀f∈a,Pl f):Gi o a (Ws o a 0):=by
 refine⟨fun j d h=> ?_,fun i j d e c k B=> ?_,fun m h=> ?_,fun m j d c k=>oY o m a 0 0 j d t c (by rw[Nat.sub_zero];exact k)⟩
 ·have:=(rW o a 0 j d h).2
  rwa[Nat.sub_zero]at this
 ·have q:=lP o a 0;rw[List.pairwise_iff_getElem]at q;obtain⟨u,v⟩:=Zb.1 c;obtain⟨w,x⟩:=Zb.1 k;rcases Nat.lt_trichotomy i j with h|h|h
  ·have:=q i j u w h;rw[v,x]at this;omega
  ·exact h
  ·have:=q j i w u h;rw[v,x]at this;omega
 ·have z:=TC h;have key:∀(b:List (List Qm)) (i:Nat),(∀g∈b,∀s,XU o g=some s->WO s.2 m=false)->Tv o m b i=none:=by
   intro b;induction b with
   |nil=>intro i _;rfl
   |cons g b A=>
    intro i n;have l:=A (i+1) fun y p=>n y (Zc _ p)
    unfold Tv;split
    ·rename_i s r;rw[if_neg (by rw[n g (Ze ..) s r];decide)];exact l
    ·exact l
  refine key a 0 fun g n s r=> ?_
  obtain⟨d,c,k,-⟩:=OM a 0 t g n s r;rw[<-k];exact z d c
theorem sP {Q q:List Qm}(b:Pl Q)(c:Nz q)(e:∀a,Wc Q a=Wc q a):Vu [] q=Q:=
 Pv.ext (Rs c).dc.dc b.dc fun m=>by rw[Ve,Ve,PK,e]
theorem bE:∀(b:List Dv) (c a:List (List Qm)) (i:Nat),(∀d∈b,d.2.2.2≠i)->(PI b c a)[i]? =a[i]?
 |[],_,_,_,_=>rfl
 |_::_,[],_,_,_=>rfl
 |d::b,q::c,a,i,h=>by
  rw[PI,bE b c _ i fun e f=>h e (Zc _ f),ZM (h d (Ze ..))]
theorem jh:∀(b:List Dv) (c a:List (List Qm)) (j:Nat) (d:Dv) (q:List Qm),b.Pairwise (fun d e=>d.2.2.2<e.2.2.2)->b[j]? =some d->c[j]? =some q->d.2.2.2<a.length->(PI b c a)[d.2.2.2]? =some (Vu [] q)
 |[],_,_,j,d,q,_,h,_,_=>by simp at h
 |_::_,[],_,j,d,q,_,_,h,_=>by simp at h
 |e::b,r::c,a,j,d,q,hp,h1,h2,hl=>by
  obtain⟨g,i⟩:=Zv.1 hp;rw[PI];cases j with
  |zero=>
   simp only[YZ,Za]at h1 h2;subst h1 h2;rw[bE b c _ _ fun x f=>by have:=g x f;omega,YR hl]
  |succ j=>
   rw[Yr]at h1 h2;exact jh b c _ j d q i h1 h2 (by rw[ZT];exact hl)
variable {o:List (List Int)}{w:List Nat}
theorem yU (e:w.length=8)(f:∀x∈w,0<x)(V:Nat):AG o w V (SK o (allM w V)):=by
 have d:∀n∈SK o (allM w V),OV w V n:=fun n c=>by
  obtain⟨a,b⟩:=Ol (WZ.1 c) f;exact⟨a.trans e,b⟩
 exact⟨NS fun n c=>(d n (WZ.2 c)).1,d,fun g _ n c _=>WZ.2 (SP (e.trans c.1.symm) f c.2)⟩
structure F3 (k:Nat)(o:List (List Int))(l:List (List Nat))(fs:List (List Qm))(p:List Qm)(n:Nat)(tq:List (List Qm))(tr:List Qm)(Qs:List (List Qm))(R:List Qm):Prop where
 prog:aR o Sq Pw XE (Ws o fs 0) false n (Vu o p) (List.replicate (Ws o fs 0).length []) [] tq tr
 ref:mi o Pw XE fs p (List.replicate fs.length []) [] Qs R
 Gq:∀q∈tq,T5 q/\q.length<60000
 Gp:tq.length=(Ws o fs 0).length
 Gn:T5 tr
 Gm:tr.length<60000
 same:PI (Ws o fs 0) tq (List.replicate fs.length [])=Qs
 rest:Vu [] tr=R
 F6:∀q∈Qs,Pw q
 GB:Pw R
 up:∀(i:Nat) (Q f:List Qm) (s:Qm),Qs[i]? =some Q->fs[i]? =some f->XU o f=some s->Pl Q/\∀u∈Q,Xg u.2 s.2∈l/\Bq k u.1
 FP:Qs.length=fs.length
 Gw:Nz tr
 nd:∀u∈tr,∀d∈Ws o fs 0,WO d.1.2 u.2=false
 F9:Sx o fs (fun n=>n∈l) fun φ=>Wc p φ-Wc tr φ
theorem dj {a k V C:Nat}{b:List (List Qm)}(S:Cx o w V a k b (Ws o b 0)){l:List (List Nat)}(ls:AG o w V l)(I:l.length<49000){p:List Qm}(hp:Pl p)(X:∀u∈p,u.2∈l)(hC:Cf C p)(U:1<=C)(a0:C*(2*a)^l.length*a<4294967296^k):∃n G K M R,F3 k o l b p n G K M R:=by
 have T:=zy o S.Ga;have Y:QI o (Ws o b 0) l (List.replicate (Ws o b 0).length []):=by
  refine⟨by simp,fun j q d' m g=> ?_⟩;have X:=Zn m;obtain rfl:=(List.mem_replicate.1 X).2;exact⟨Nz.nil,Sz.nil,(fun _ h=>by cases h),by simp;omega⟩
 have Z:RI o (Ws o b 0) l []:=⟨Nz.nil,Sz.nil,(fun _ h=>by cases h),by simp;omega,(fun _ h=>by cases h)⟩;have P:∀(j:Nat) (d:Dv),(Ws o b 0)[j]? =some d->d.2.2.2<b.length:=fun j d h=>(Zb.1 (T.at_ j d h)).1
 have J:An k l b (Ws o b 0) (Vu o p) (List.replicate (Ws o b 0).length []) [] p (List.replicate b.length []) []:=by
  refine⟨hp,fun φ=>(PK φ p).symm,Pl.nil,fun _=>rfl,by simp,fun j d q m g=> ?_,fun j d q m g=> ?_,fun i _ v=> ?_⟩
  ·obtain rfl:=(List.mem_replicate.1 (Zn g)).2;exact⟨[],by rw[Yd,if_pos (P j d m)],Pl.nil,fun _=>rfl⟩
  ·obtain rfl:=(List.mem_replicate.1 (Zn g)).2;exact fun _ h=>by cases h
  ·rw[Yd,if_pos v]
 obtain⟨n,G,K,M,R,k1,O,A,k4,r,k6⟩:=NY S T (l0:=l) l ls (fun _ h=>h) I (Rs hp.O1) (fun u hu=>X u ((Vh o p).mem_iff.1 hu)) (hC.sub fun t ht=>(Vh o p).mem_iff.1 ht) U a0 Y Z J;have y:∀q∈G,Nz q/\Pw q:=fun q D=>by
  obtain⟨j,z⟩:=ZC.1 D;have B:j<(Ws o b 0).length:=by rw[<-O.len];exact(Zb.1 z).1
  obtain⟨m1,m2,m3,m4⟩:=O.at_ j q _ z (Zf B);exact⟨m1,m2,by simp at m4;omega⟩
 have hR:Vu [] K=R:=sP r.Ej A.O1 r.rR;have a2:Pw R:=Pw.perm (us:=K) ⟨A.sz,by have:=A.len;simp at this;omega⟩ (OB r.Ej.O1 A.O1 r.rR);have a1:=lP o b 0;have c:∀i,i<b.length->(∃(j:Nat) (d:Dv) (q:List Qm),(Ws o b 0)[j]? =some d/\G[j]? =some q/\d.2.2.2=i)\/∀(j:Nat) (d:Dv),(Ws o b 0)[j]? =some d->d.2.2.2≠i:=fun i v=>by
  by_cases h:∃d∈Ws o b 0,d.2.2.2=i
  ·obtain⟨d,W,rfl⟩:=h;obtain⟨j,z⟩:=ZC.1 W;have B:=(Zb.1 z).1;exact .inl ⟨j,d,_,z,Zf (by rw[O.len];exact B),rfl⟩
  ·exact .inr fun j d z e=>h ⟨d,Zn z,e⟩
 have E:PI (Ws o b 0) G (List.replicate b.length [])=M:=by
  apply List.ext_getElem?;intro i;by_cases v:i<b.length
  ·rcases c i v with⟨j,d,q,m,g,rfl⟩|h
   ·obtain⟨Q,F,H,L⟩:=r.at_ j d q m g;rw[jh _ _ _ j d q a1 m g (by simpa using v),F,sP H (y q (Zn g)).1 L]
   ·rw[bE _ _ _ i fun d W=>by
     obtain⟨j,z⟩:=ZC.1 W;exact h j d z,r.ES i h v,Yd,if_pos v]
  ·rw[YB (by rw[jg];simp;omega),YB (by rw[r.len];omega)]
 refine⟨n,G,K,M,R,k1,k4,fun q D=>⟨(y q D).1.nd,by have:=(y q D).2.2;omega⟩,O.len,A.O1.nd,by have:=A.len;simp at this;omega,E,hR,fun Q N=> ?_,a2,fun i Q f s N hf hs=> ?_,r.len,A.O1,A.nd,k6.congr fun φ=>by rw[PK];simp only[Wc];grind⟩
 ·obtain⟨i,v⟩:=ZC.1 N;have x:i<b.length:=by rw[<-r.len];exact(Zb.1 v).1
  rcases c i x with⟨j,d,q,m,g,rfl⟩|h
  ·obtain⟨Q',F,H,L⟩:=r.at_ j d q m g;rw[v]at F;cases F;have D:=y q (Zn g);exact Pw.perm D.2 (OB H.O1 D.1 L)
  ·have:=r.ES i h x;rw[v]at this;cases this;exact⟨Sz.nil,by simp⟩
 ·have x:i<b.length:=(Zb.1 hf).1;rcases c i x with⟨j,d,q,m,g,rfl⟩|h
  ·obtain⟨Q',F,H,L⟩:=r.at_ j d q m g;rw[N]at F;cases F;have e:=T.at_ j d m;rw[hf]at e;cases e;have e2:=(S.dv d (Zn m)).ld;rw[hs]at e2;cases e2;have pm:=OB H.O1 (y q (Zn g)).1 L;exact⟨H,fun u hu=>r.up j d q m g u (pm.mem_iff.1 hu)⟩
  ·have:=r.ES i h x;rw[N]at this;cases this;exact⟨Pl.nil,fun _ h=>by cases h⟩
end Go.Proofs.YtidginchkjhobaaGreat
namespace Go.Proofs.YtidginchkjhobaaGreat
open Go.Ev Go.Num
theorem tE (m:List Nat)(s:Qm):XQ (1,m) s=(s.1⁻¹,X6 m s.2):=by unfold XQ;rw[Rat.div_def,Rat.one_mul]
theorem C4 (s:Qm)(a:List Qm)(t:Qm)(b:List Qm):C5 s a t b=eL s a t b:=by unfold C5 eL Tn;rw[tE,tE]
theorem qS {a:List (List PL)}(h:X4 a []):a=[]:=by cases h;rfl
theorem NR {o:List (List Int)}{f:List Qm}(h:f≠[]):∃s a,Vu o f=s::a:=by
 cases b:Vu o f with
 |nil=>
  have:=Sc o f;rw[b]at this;exact absurd (Yq this.symm) h
 |cons s a=>exact⟨s,a,rfl⟩
variable {o:List (List Int)}{w:List Nat}
theorem Bi {B:Xs}(J:Std B){d:List (List Qm)}(W:On o w d){y L:PL}(so:SG y o)(X:Xx B 22 [.one y] (.one (.bool true)))(D:∀f∈d,Sa 3 12 4 f){ls:List PL}(sl:Sl L (Xf ls))(N:Ut ls d)(hl:d.length<1000){f g:List Qm}(C:f∈d)(E:g∈d){p q:PL}(hp:PQ p f)(hq:PQ q g):
  (∃s,Xx B 58 [.one p,.one q,.one y] (.XZ [.one s,.one (.int .i64 (.ofNat 10))])/\(f=[]\/g=[]))\/
  (∃s r,Xx B 58 [.one p,.one q,.one y] (.XZ [.one s,.one (.int .i64 (.ofNat 0))])/\Xx B 59 [.one s,.one L,.one y] (.one r)/\Sl r []/\∀s t,XU o f=some s->XU o g=some t->SB o w d f g s t)\/
  (∃s r,∃G:List (List PL),Xx B 58 [.one p,.one q,.one y] (.XZ [.one s,.one (.int .i64 (.ofNat 0))])/\Xx B 59 [.one s,.one L,.one y] (.one r)/\Sl r G/\0<G.length/\¬D9 o w d):=by
 have H:=D f C;have I:=D g E;by_cases h0:f=[]\/g=[]
 ·exact .inl ⟨.XC,ni J so W.o8 W.ol X hp hq (by have:=H.len;omega) (by have:=I.len;omega) h0,h0⟩
 ·obtain⟨s,v,G⟩:=NR (o:=o) (fun h=>h0 (.inl h):f≠[]);obtain⟨t,x,et⟩:=NR (o:=o) (fun h=>h0 (.inr h):g≠[]);have e:QM o w 12 d (s,f,v,0):=gB (by omega) W C (n:=4) (by omega) H G 0;have i:QM o w 12 d (t,g,x,0):=gB (by omega) W E (n:=4) (by omega) I et 0;have Y:WT w (R8 (s,f,v,0) (t,g,x,0))<=96:=by
   have l:=W.le 3 _ (H.my _ (XW e.pl e.ld).1);have m:=W.le 3 _ (I.my _ (XW i.pl i.ld).1);have:=NI w s.2 t.2;show WT w (XD s.2 t.2)<=96;have a0:WT w s.2<=16*3:=l;have a1:WT w t.2<=16*3:=m;omega
  have F:(Az o w (s,f,v,0) (t,g,x,0)).length<=17000:=Zy tM (Zy (OC w Y) W.num);have T:=sR (a:=12) (by omega) F;have b:wU (s,f,v,0) (t,g,x,0):=qv (k:=K1) (by decide) (by
   have:=sR (a:=12) (n:=0) (by omega) (by omega);rw[Nat.pow_zero]at this;omega) W.w8 W.wp (by omega) e i
  have hs:XU o f=some s:=e.ld;have ht:XU o g=some t:=i.ld;have e1:=tE (XD s.2 t.2) s;have e2:=tE (XD s.2 t.2) t;obtain⟨r0,r1,r2⟩:=qH J so W.o8 W.ol X hp hq (by have:=H.len;omega) (by have:=I.len;omega) hs ht b.ht b.hs b.t0 b.s0 b.zt b.zs (by rw[e1];exact b.ot) (by rw[e2];exact b.os) (by rw[e1];exact b.ht.inv) (by rw[e2];exact b.hs.inv) (by rw[e1];exact PZ b.t0) (by rw[e2];exact PZ b.s0) (by rw[e1];exact b.rt) (by rw[e2];exact b.rs);rw[C4]at r2;have cx:=W.cx (c:=12) (n:=4) (k:=K1) (by omega) (by omega) (by decide) (V:=WT w (R8 (s,f,v,0) (t,g,x,0))) (by omega) D;have Z:=yV W.w8 W.wp e i;obtain⟨n,tq,tr,Qs,R,S⟩:=dj cx Z (by omega) (PB e i) (fun u U=>by
   obtain⟨l,m⟩:=dP e i u U;exact lE W.w8 W.wp l m) (qw e i) (by omega) T
  obtain⟨a2,lr,d1,d2,d3,d4⟩:=B6 J so W.o8 W.ol sl N (fun f C=>by have:=(D f C).len;omega) (by omega) X (lp:=.Xp r0) ⟨_,.Xp,r2⟩ S.ref;have d5:=u9 J d1;obtain⟨K,A,z⟩:=d3;by_cases j:tr=[]
  ·refine .inr (.inl ⟨_,lr,r1,d5,?_,fun s' t' l m=> ?_⟩)
   ·have hR:R=[]:=by rw[<-S.rest,j];rfl
    rw[hR]at z;rw[qS z]at A;exact A
   ·rw[hs]at l;rw[ht]at m;cases l;cases m;exact ja W.w8 W.wp e i (S.F9.congr fun φ=>by rw[j];simp only[Wc];grind)
  ·refine .inr (.inr ⟨_,lr,K,r1,d5,A,?_,fun hA=>j ?_⟩)
   ·rw[z.length,<-S.rest,Sc];exact List.length_pos_iff.2 j
   ·refine DB (hA (WT w (R8 (s,f,v,0) (t,g,x,0)))) S.Gw ?_ fun u U f' M s' O=> ?_
    ·have q1:=sO e i (P:=fun n=>L8 n/\WT w n<=WT w (R8 (s,f,v,0) (t,g,x,0))) ⟨oz e i,Zh _⟩;have q2:=(S.F9.mono (Q:=fun n=>L8 n/\WT w n<=WT w (R8 (s,f,v,0) (t,g,x,0))) fun n hn=>(ao W.w8 W.wp hn).1).smul (-1);exact(q1.plus q2).congr fun φ=>by grind
    ·obtain⟨d',l,m,-⟩:=OM d 0 (fun f C=>(D f C).pl) f' M s' O;rw[<-m];exact S.nd u U d' l
theorem yk {B:Xs}(F:Std B){c:List (List Qm)}(W:On o w c){z L:PL}(R:SG z o)(J:Xx B 22 [.one z] (.one (.bool true)))(d:∀f∈c,Sa 3 12 4 f){P:List PL}(Q:Sl L (Xf P))(j:Ut P c)(H:c.length<1000){f:List Qm}(G:f∈c){p:PL}(I:PQ p f):∀{rest:List PL} {l:List (List Qm)},Ut rest l->(∀g∈l,g∈c)->
  ∃b,(X1 B fun E _=>AF E L z p rest b)/\(b=false->∀g∈l,∀s t,XU o f=some s->XU o g=some t->SB o w c f g s t)/\(b=true->¬D9 o w c)
 |[],_,.nil,_=>⟨false,X1.of fun _ _=>.nil,(fun _ g d=>by cases d),(fun h=>by cases h)⟩
 |q::rest,g::l,.cons hq h,hm=>by
  obtain⟨b,M,N,O⟩:=yk F W R J d Q j H G I h fun g d=>hm g (Zc _ d)
  have y:=hm g (Ze ..);rcases Bi F W R J d Q j H G y I hq with⟨s,k,h0⟩|⟨s,r,k,A,C,D⟩|⟨s,r,T,k,A,C,D,S⟩
  ·refine⟨b,(M.and k.Xj).mono fun E K ⟨u,e1⟩=>.zero e1 u,fun x v a m n e i=> ?_,O⟩;rcases Zj.1 a with rfl|a
   ·rcases h0 with rfl|rfl
    ·cases e
    ·cases i
   ·exact N x v a m n e i
  ·refine⟨b,(M.and (k.Xj.and A.Xj)).mono fun E K ⟨u,e1,e2⟩=>.ok e1 e2 C u,fun x v a m n e i=> ?_,O⟩;rcases Zj.1 a with rfl|a
   ·exact D m n e i
   ·exact N x v a m n e i
  ·exact⟨true,(k.Xj.and A.Xj).mono fun E K ⟨e1,e2⟩=>.bad e1 e2 C D,(fun h=>by cases h),fun _=>S⟩
def Cp (o:List (List Int))(w:List Nat)(fs:List (List Qm)):List (List Qm)->Prop
 |[]=>True
 |f::gs=>(∀g∈gs,∀s t,XU o f=some s->XU o g=some t->SB o w fs f g s t)/\Cp o w fs gs
theorem Cp.get {b:List (List Qm)}:∀{a:List (List Qm)},Cp o w b a->∀f∈a,∀g∈a,f≠g->∀s t,XU o f=some s->XU o g=some t->SB o w b f g s t
 |[],_,f,hf,_,_,_,_,_,_,_=>by cases hf
 |x::a,h,f,hf,g,hg,hne,s,t,hs,ht=>by
  obtain⟨c,d⟩:=h;rcases Zj.1 hf with rfl|hf'
  ·rcases Zj.1 hg with rfl|hg'
   ·exact absurd rfl hne
   ·exact c g hg' s t hs ht
  ·rcases Zj.1 hg with rfl|hg'
   ·exact(c f hf' t s ht hs).sym
   ·exact d.get f hf' g hg' hne s t hs ht
theorem yl {B:Xs}(k:Std B){a:List (List Qm)}(W:On o w a){j L:PL}(s:SG j o)(m:Xx B 22 [.one j] (.one (.bool true)))(d:∀f∈a,Sa 3 12 4 f){n:List PL}(r:Sl L (Xf n))(e:Ut n a)(l:a.length<1000):∀{rest:List PL} {i:List (List Qm)},Ut rest i->(∀g∈i,g∈a)->
  ∃b,(X1 B fun E _=>D6 E L j rest b)/\(b=false->Cp o w a i)/\(b=true->¬D9 o w a)
 |[],_,.nil,_=>⟨false,X1.of fun _ _=>.nil,(fun _=>trivial),(fun h=>by cases h)⟩
 |p::rest,f::i,.cons hp h,hm=>by
  obtain⟨b,v,x,y⟩:=yl k W s m d r e l h fun g d=>hm g (Zc _ d)
  obtain⟨c,q,z,A⟩:=yk k W s m d r e l (hm f (Ze ..)) hp h fun g d=>hm g (Zc _ d)
  cases c with
  |false=>exact⟨b,(v.and q).mono fun E K ⟨t,e1⟩=>.next e1 t,(fun u=>⟨z rfl,x u⟩),y⟩
  |true=>exact⟨true,q.mono fun E K e1=>.stop e1,(fun h=>by cases h),fun _=>A rfl⟩
theorem yj {B:Xs}(i:Std B){c:List (List Qm)}(W:On o w c){e L:PL}(t:SG e o)(j:Xx B 22 [.one e] (.one (.bool true)))(d:∀f∈c,Sa 3 12 4 f){k:List PL}(l:Sl L (Xf k))(a:Ut k c)(n:c.length<1000):
  ∃r,Xx B 24 [.one L,.one e] (.one (.bool r))/\(r=true↔D9 o w c):=by
 obtain⟨b,p,q,s⟩:=yl i W t j d l a n a fun g d=>d
 refine⟨!b,kP i l (by have:=a.length;omega) j p,?_⟩;cases b with
 |false=>exact⟨(fun _ V=>oQ W.w8 W.wp (fun f m=>(d f m).pl) (q rfl).get V),(fun _=>rfl)⟩
 |true=>exact⟨(fun h=>by cases h),(fun h=>absurd h (s rfl))⟩
end Go.Proofs.YtidginchkjhobaaGreat
