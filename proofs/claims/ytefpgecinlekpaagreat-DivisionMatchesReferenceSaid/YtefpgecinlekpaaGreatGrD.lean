/- Division by the program and by the reference, side by side: plain facts. -/
import Derived.Test.YtefpgecinlekpaaGreatGrC
import Derived.Test.YtefpgecinlekpaaGreatRDv
namespace Go.Num
open Go.Ev
theorem aq {c d:List Qm}(h:Nz c)(k:Nz d)(e:∀g,Wg c g=Wg d g):c.Perm d:=by
 have f:∀{l:List Qm},(l.map (·.2)).Nodup->l.Nodup:=fun{l} h=>by
  rw[List.nodup_iff_pairwise_ne,YV]at h;exact h.imp fun a e=>a (congrArg Prod.snd e)
 rw[List.perm_ext_iff_of_nodup (f h.nd) (f k.nd)];exact fun x=>⟨fun b=>h.same k (fun m _=>by rw[V5,V5,e]) b,fun b=>k.same h (fun m _=>by rw[V5,V5,e]) b⟩
theorem mh {f:List Qm}(h:Pl f)(e:∀a,Wg f a=0):f=[]:=PN.ext h.dc .nil fun m=>by rw[V5,e,gH]
theorem yz {t:Qm}(h0:t.1≠0)(b:L8 t.2):Pl [t]:=⟨⟨fun x a=>by rw[Yu.1 a];exact h0,List.pairwise_singleton ..⟩,fun x a=>by rw[Yu.1 a];exact b⟩
theorem BR {o:List (List Int)}{left p:List Qm}{t:Qm}(c:Pl left)(b:PO o (t::p))(a:left.Perm (t::p)):Wl o left=some t:=by
 cases h:Wl o left with
 |none=>
  have:=RG h;subst this;have:=a.length_eq;simp at this
 |some s=>
  obtain⟨f,g,j,i⟩:=We c h;have d:t∈left:=a.mem_iff.2 (Ze ..);rcases i t d with e|e
  ·rw[e]
  ·rcases Zk.1 (a.mem_iff.1 f)with e2|e2
   ·rw[e2]
   ·have:=(Zr.1 b.pw).1 s e2;exact absurd e (this.asymm g (b.q8 t (Ze ..)))
end Go.Num
namespace Go.Proofs.YtefpgecinlekpaaGreat
open Go.Ev Go.Num
theorem PR.perm {a us:List Qm}(h:PR us)(p:a.Perm us):PR a:=⟨fun x b=>h.1 x (p.mem_iff.1 b),by rw[p.length_eq];exact h.2⟩
structure Gx (o:List (List Int))(fs:List (List Qm))(ds:List Dv):Prop where
 at_:∀(j:Nat) (d:Dv),ds[j]? =some d->fs[d.2.2.2]? =some d.2.1
 inj:∀(i j:Nat) (d e:Dv),ds[i]? =some d->ds[j]? =some e->d.2.2.2=e.2.2.2->i=j
 none_:∀m,Tt m ds 0=none->Ts o m fs 0=none
 some_ :∀m (j:Nat) (d:Dv),Tt m ds 0=some j->ds[j]? =some d->Ts o m fs 0=some d.2.2.2
structure Ax (fs:List (List Qm))(ds:List Dv)(p:List Qm)(tq:List (List Qm))(tr:List Qm)(left:List Qm)(Qs:List (List Qm))(R:List Qm):Prop where
 pl:Pl left
 le:∀φ,Wg left φ=Wg p φ
 EB:Pl R
 rR:∀φ,Wg R φ=Wg tr φ
 len:Qs.length=fs.length
 at_:∀(j:Nat) (d:Dv) (q:List Qm),ds[j]? =some d->tq[j]? =some q->∃Q,Qs[d.2.2.2]? =some Q/\Pl Q/\∀φ,Wg Q φ=Wg q φ
 FO:∀i,(∀(j:Nat) (d:Dv),ds[j]? =some d->d.2.2.2≠i)->i<fs.length->Qs[i]? =some []
theorem N3 {o:List (List Int)}{w:List Nat}{W a k:Nat}{V:List (List Qm)}{s:List Dv}(N:Cx o w W a k V s)(fi:Gx o V s):∀(l:List (List Nat)),Ct o w W l->l.length<49000->∀{p:List Qm} {B:List (List Qm)} {G:List Qm} {C:Nat},PO o p->(∀u∈p,u.2∈l)->Cf C p->1<=C->C*(2*a)^l.length*a<4294967296^k->QI o s l B->RI o s l G->
  ∀{left R:List Qm} {T:List (List Qm)},Ax V s p B G left T R->
  ∃n g f r U,aW o Sq PR XL s false n p B G g f/\QI o s [] g/\RI o s [] f/\ma o PR XL V left T R r U/\Ax V s [] g f [] r U/\SD o V (fun n=>n∈l) fun v=>Wg p v-(Wg f v-Wg G v)
 |l,_,_,[],B,G,_,_,_,_,_,_,Y,A,left,R,T,rel=>by
  have O:left=[]:=mh rel.pl fun v=>by rw[rel.le];rfl
  subst O;exact⟨0,B,G,T,R,.done,Y.sub (fun _ h=>by cases h) (Zs _),A.sub (fun _ h=>by cases h) (Zs _),.done,rel,.zero fun v=>by simp only[Wg];grind⟩
 |[],_,_,t::p,_,_,_,_,hm,_,_,_,_,_,_,_,_,_=>by have:=hm t (Ze ..);cases this
 |δ::l,O,hln,t::p,B,G,C,hp,hm,hC,hC1,P,Y,A,left,R,T,rel=>by
  obtain⟨b1,b2⟩:=nJ O hp hm;have J:=O.tail;have b4:=O.CS δ (Ze ..);have p1:=(Zr.1 O.dc).1;have a1:=N.a1;simp only[Zi]at hln P;have a2:QI o s l B:=Y.sub (fun x m=>Zc _ m) (by simp);have a4:RI o s l G:=A.sub (fun x m=>Zc _ m) (by simp);have Z:=Z5 (sN (C:=C) a1 l.length) P;have a9:=Z5 (sO (C:=C) a1 (l.length+1)) P;by_cases ht:t.2=δ
  ·have b3:=hp.q8 t (Ze ..);have b0:=hp.nz t (Ze ..);have a8:left.Perm (t::p):=aq rel.pl.Nd hp.Nd rel.le;have I:=BR rel.pl hp a8;have e6:C<=C*a:=Nat.le_mul_of_pos_right _ a1;have b9:Sz (t::p):=Am N.k7 hC (by omega);have e5:(t::p).length<=l.length+1:=PO.lk (l:=δ::l) O.dc (fun n K=>(O.CS n K).1) hp hm;have b8:PR left:=PR.perm ⟨b9,by omega⟩ a8;have d1:R.Perm G:=aq rel.EB.Nd A.Nd rel.rR;have e3:PR R:=PR.perm ⟨A.sz,by have:=A.len;simp only[Zi]at this;omega⟩ d1;have st:Sq t.1:=b9 t (Ze ..);have one:∀{x:Qm},Sq x.1->PR [x]:=fun{x} h=>⟨fun y hy=>by rw[Yu.1 hy];exact h,by simp⟩
   have a5:=yz b0 b3;cases hf:Tt t.2 s 0 with
   |none=>
    have d6:RI o s l (G++[t]):=by
     have d3:=A.len;refine⟨sX A.Nd b0 b3 fun u b e=> ?_,A.sz.snoc st,fun u b x m=> ?_,?_,fun u b d hd=> ?_⟩
     ·have:=A.lt u b δ (Ze ..);rw[e,ht]at this;exact Vv.AK this
     ·rcases ZV.1 b with b|b
      ·exact a4.lt u b x m
      ·simp only[Zk,ZX,or_false]at b;subst b;rw[ht];exact p1 x m
     ·simp only[Zl,Zi,Zu]at d3⊢;omega
     ·rcases ZV.1 b with b|b
      ·exact A.nd u b d hd
      ·simp only[Zk,ZX,or_false]at b;subst b;exact TD hf d hd
    have M:Ax V s p B (G++[t]) (Vu left (Ri [t])) T (Vu R [t]):=by
     have pn:=fp a5;refine⟨rel.pl.add pn,fun v=> ?_,rel.EB.add a5,fun v=> ?_,rel.len,rel.at_,rel.FO⟩
     ·rw[Rg v _ _ _ (Zh _) rel.pl.q8 pn.q8,kO,rel.le];simp only[Wg];grind
     ·rw[Rg v _ _ _ (Zh _) rel.EB.q8 a5.q8,rel.rR,Rf]
    obtain⟨n,g,f,r,U,k1,k2,k3,k4,k5,k6⟩:=N3 N fi l J (by omega) hp.tail b1 (hC.sub fun x m=>Zc _ m) hC1 Z a2 d6 M;exact⟨n+1,g,f,r,U,.xY rfl ⟨A.sz,by have:=A.len;simp only[Zi]at this;omega⟩ hf k1,k2,k3,.rem b8 e3 (one st) I (fi.none_ _ hf) k4,k5,(k6.mono fun n K=>Zc _ K).congr fun v=>by rw[Rf];simp only[Wg];grind⟩
   |some j=>
    obtain⟨d,f1,E,f3,f4⟩:=SX hf;rw[Nat.sub_zero]at E;have c0:=f3;rw[ht]at f3;have a7:=Zt E;have D:=N.dv d a7;have S:=step N b4 (fun n K=>(J.CS n K).1) p1 (fun n K X=>(Zk.1 (O.cl δ (Ze ..) n K X)).resolve_left X.ne) J.dc (by omega) hp ht b1 hC a9 hC1 a7 f3;obtain⟨q,a3⟩:∃q,B[j]? =some q:=⟨_,Zg (by rw[Y.len];exact(Zd.1 E).1)⟩;obtain⟨n1,n2,n3,n4⟩:=Y.at_ j q d a3 E;have L:fB false B j (XR t d.1)=B.set j (q++[XR t d.1]):=by simp only[fB,a3]
    have d5:QI o s l (fB false B j (XR t d.1)):=by
     rw[L];refine⟨by rw[ZZ];exact Y.len,fun i q' d' F H=> ?_⟩;rw[YW]at F;by_cases z:j=i
     ·subst z;rw[if_pos rfl]at F;split at F
      ·cases F;rw[E]at H;cases H;refine⟨sX n1 S.c9 S.m8 fun u b e=> ?_,n2.snoc S.c5,fun u b x m=> ?_,?_⟩
       ·have:=n3 u b δ (Ze ..);rw[e,S.ms]at this;exact Vv.AK this
       ·rcases ZV.1 b with b|b
        ·exact n3 u b x (Zc _ m)
        ·simp only[Zk,ZX,or_false]at b;subst b;rw[S.ms];exact p1 x m
       ·simp only[Zl,Zi,Zu]at n4⊢;omega
      ·cases F
     ·rw[if_neg z]at F;exact a2.at_ i q' d' F H
    obtain⟨Q,q1,q2,q3⟩:=rel.at_ j d q E a3;have d0:Q.Perm q:=aq q2.Nd n1 q3;have e1:PR Q:=PR.perm ⟨n2,by omega⟩ d0;have b7:Pl [XR t d.1]:=yz S.c9 S.m8;have d2:=fi.at_ j d E;have e2:PR d.2.1:=PR.perm (us:=d.1::d.2.2.1) ⟨fun x m=>by
     rcases Zk.1 m with rfl|m
     ·exact S.c4
     ·exact S.c6.1 x m,by rw[D.perm.length_eq];exact D.len⟩ D.perm.symm
    have d7:(XR t d.1).1*d.1.1=t.1:=by
     show t.1 / d.1.1*d.1.1=t.1;have:=S.c8;rw[Rat.div_def,Rat.mul_assoc,Rat.inv_mul_cancel _ S.c8,Rat.mul_one]
    have b5:∀u∈d.2.1,u=d.1\/u∈d.2.2.1:=fun u b=>Zk.1 (D.perm.mem_iff.2 b)
    have e4:PR (X3 (XR t d.1).1 (XR t d.1).2 d.2.1):=⟨fun x m=>by
     unfold X3 at m;obtain⟨u,b,rfl⟩:=ZH.1 m;rcases b5 u b with rfl|b
     ·show Sq ((XR t d.1).1*d.1.1);rw[d7];exact st
     ·have:=(S.c7 u b).2.2.neg;show Sq ((XR t d.1).1*u.1);have e: -(-(XR t d.1).1*u.1)=(XR t d.1).1*u.1:=by grind
      rwa[e]at this,by unfold X3;rw[Zy];exact D.len⟩
    have d9:∀u∈d.2.1,XL (Xg (XR t d.1).2 u.2):=fun u b=>by
     rcases b5 u b with rfl|b
     ·rw[S.ms];exact b4.ok N.w8 N.wp N.Gv
     ·rw[X7];exact(S.c7 u b).1
    have e0:=RC S.c9 S.m8 D.pl;have b6:=fp e0;have a6:d.2.2.2<T.length:=(Zd.1 q1).1;have M:Ax V s (Tp o (-(XR t d.1).1) (XR t d.1).2 p d.2.2.1) (fB false B j (XR t d.1)) G (Vu left (Ri (X3 (XR t d.1).1 (XR t d.1).2 d.2.1))) (T.set d.2.2.2 (Vu Q [XR t d.1])) R:=by
     rw[L];refine⟨rel.pl.add b6,fun v=> ?_,rel.EB,rel.rR,by rw[ZZ];exact rel.len,fun i e q' F H=> ?_,fun i hi a0=> ?_⟩
     ·rw[Rg v _ _ _ (Zh _) rel.pl.q8 b6.q8,kO,QA,rel.le,S.eq]
      grind
     ·rw[YW]at H;by_cases z:j=i
      ·subst z;rw[E]at F;cases F;rw[if_pos rfl]at H;split at H
       ·cases H;refine⟨Vu Q [XR t d.1],Yi a6,q2.add b7,fun v=> ?_⟩;rw[Rg v _ _ _ (Zh _) q2.q8 b7.q8,q3,Rf]
       ·cases H
      ·rw[if_neg z]at H;obtain⟨Q',y1,y2,y3⟩:=rel.at_ i e q' F H;have d4:d.2.2.2≠e.2.2.2:=fun h=>z (fi.inj j i d e E F h)
       exact⟨Q',by rw[ZB d4];exact y1,y2,y3⟩
     ·rw[ZB (hi j d E)];exact rel.FO i hi a0
    have c2:1<=2*a*C:=Nat.mul_pos (by omega) hC1;obtain⟨n,g,f,r,U,k1,k2,k3,k4,k5,k6⟩:=N3 N fi l J (by omega) S.po S.mem S.cf c2 (by rw[nH];exact P) d5 a4 M;refine⟨n+1,g,f,r,U,.div S.c1 S.c3 S.c4 S.c5 S.c6 S.c7 S.c8 S.c9 (fun q d8=> ?_) hf E k1,k2,k3,.div b8 e2 (one st) (one S.c4) (one S.c5) e1 e4 S.c8 S.c9 d9 I (fi.some_ _ j d hf E) d2 D.ld c0 q1 k4,k5,SD.add (c:=(XR t d.1).1) D.mem D.ld S.m8 (by rw[S.ms];exact Ze ..) (k6.mono fun n K=>Zc _ K) fun v=>by rw[S.eq];grind⟩;obtain⟨i,hi⟩:=ZM.1 d8;have a0:i<s.length:=by rw[<-Y.len];exact(Zd.1 hi).1
    obtain⟨-,m2,-,m4⟩:=Y.at_ i q _ hi (Zg a0);exact⟨m2,by omega⟩
  ·obtain⟨n,g,f,r,U,k1,k2,k3,k4,k5,k6⟩:=N3 N fi l J (by omega) hp (b2 ht) hC hC1 Z a2 a4 rel;exact⟨n,g,f,r,U,k1,k2,k3,k4,k5,k6.mono fun n K=>Zc _ K⟩
theorem rF (o:List (List Int)):∀(c:List (List Qm)) (i j:Nat) (d:Dv),(Wz o c i)[j]? =some d->i<=d.2.2.2/\c[d.2.2.2-i]? =some d.2.1
 |[],i,j,d,h=>by simp[Wz]at h
 |f::c,i,j,d,h=>by
  have e:=fun j h=>rF o c (i+1) j d h
  unfold Wz at h;split at h
  ·obtain⟨a,b⟩:=e j h;refine⟨by omega,?_⟩;rw[show d.2.2.2-i=(d.2.2.2-(i+1))+1 by omega];exact b
  ·cases j with
   |zero=>
    simp only[Yq,Za]at h;subst h;refine⟨Zh _,?_⟩;show(f::c)[i-i]? =some f;rw[YM];rfl
   |succ j=>
    rw[Z9]at h;obtain⟨a,b⟩:=e j h;refine⟨by omega,?_⟩;rw[show d.2.2.2-i=(d.2.2.2-(i+1))+1 by omega];exact b
theorem lG (o:List (List Int)):∀(a:List (List Qm)) (i:Nat),(Wz o a i).Pairwise fun d e=>d.2.2.2<e.2.2.2
 |[],i=>by simp[Wz]
 |f::a,i=>by
  have b:=lG o a (i+1);unfold Wz;split
  ·exact b
  ·refine Zr.2 ⟨fun e c=> ?_,b⟩;obtain⟨j,g⟩:=ZM.1 c;have:=(rF o a (i+1) j e g).1;show i<e.2.2.2;omega
theorem oO (o:List (List Int))(m:List Nat):∀(a:List (List Qm)) (i k j:Nat) (d:Dv),(∀f∈a,Pl f)->Tt m (Wz o a i) k=some j->(Wz o a i)[j-k]? =some d->Ts o m a i=some d.2.2.2
 |[],i,k,j,d,_,h,_=>by simp[Wz,Tt]at h
 |f::a,i,k,j,d,hp,h,hd=>by
  have c:=fun k=>oO o m a (i+1) k j d (fun g p=>hp g (Zc _ p))
  unfold Wz at h hd;unfold Ts;cases e:Va o f with
  |nil=>
   rw[e]at h hd;have n:f=[]:=by
    have:=Sh o f;rw[e]at this;exact Yk this.symm
   subst n;exact c k h hd
  |cons t s=>
   rw[e]at h hd;have r:=QH (hp f (Ze ..)) e;simp only[r];simp only at h hd;unfold Tt at h;by_cases b:X9 t.2 m=true
   ·rw[if_pos b]at h⊢;cases h;rw[YM]at hd;simp only[Yq,Za]at hd;subst hd;rfl
   ·rw[if_neg b]at h⊢;have q:k+1<=j:=by
     obtain⟨_,l,-⟩:=SX h;exact l
    rw[show j-k=(j-(k+1))+1 by omega,Z9]at hd;exact c (k+1) h hd
theorem zA (o:List (List Int)){a:List (List Qm)}(t:∀f∈a,Pl f):Gx o a (Wz o a 0):=by
 refine⟨fun j d h=> ?_,fun i j d e c k B=> ?_,fun m h=> ?_,fun m j d c k=>oO o m a 0 0 j d t c (by rw[Nat.sub_zero];exact k)⟩
 ·have:=(rF o a 0 j d h).2
  rwa[Nat.sub_zero]at this
 ·have q:=lG o a 0;rw[List.pairwise_iff_getElem]at q;obtain⟨u,v⟩:=Zd.1 c;obtain⟨w,x⟩:=Zd.1 k;rcases Nat.lt_trichotomy i j with h|h|h
  ·have:=q i j u w h;rw[v,x]at this;omega
  ·exact h
  ·have:=q j i w u h;rw[v,x]at this;omega
 ·have z:=TD h;have key:∀(b:List (List Qm)) (i:Nat),(∀g∈b,∀s,Wl o g=some s->X9 s.2 m=false)->Ts o m b i=none:=by
   intro b;induction b with
   |nil=>intro i _;rfl
   |cons g b A=>
    intro i n;have l:=A (i+1) fun y p=>n y (Zc _ p)
    unfold Ts;split
    ·rename_i s r;rw[if_neg (by rw[n g (Ze ..) s r];decide)];exact l
    ·exact l
  refine key a 0 fun g n s r=> ?_
  obtain⟨d,c,k,-⟩:=OZ a 0 t g n s r;rw[<-k];exact z d c
theorem si {Q q:List Qm}(b:Pl Q)(c:Nz q)(e:∀a,Wg Q a=Wg q a):Va [] q=Q:=
 PN.ext (Rv c).dc.dc b.dc fun m=>by rw[V5,V5,P2,e]
theorem bG:∀(b:List Dv) (c a:List (List Qm)) (i:Nat),(∀d∈b,d.2.2.2≠i)->(P0 b c a)[i]? =a[i]?
 |[],_,_,_,_=>rfl
 |_::_,[],_,_,_=>rfl
 |d::b,q::c,a,i,h=>by
  rw[P0,bG b c _ i fun e f=>h e (Zc _ f),ZB (h d (Ze ..))]
theorem jj:∀(b:List Dv) (c a:List (List Qm)) (j:Nat) (d:Dv) (q:List Qm),b.Pairwise (fun d e=>d.2.2.2<e.2.2.2)->b[j]? =some d->c[j]? =some q->d.2.2.2<a.length->(P0 b c a)[d.2.2.2]? =some (Va [] q)
 |[],_,_,j,d,q,_,h,_,_=>by simp at h
 |_::_,[],_,j,d,q,_,_,h,_=>by simp at h
 |e::b,r::c,a,j,d,q,hp,h1,h2,hl=>by
  obtain⟨g,i⟩:=Zr.1 hp;rw[P0];cases j with
  |zero=>
   simp only[Yq,Za]at h1 h2;subst h1 h2;rw[bG b c _ _ fun x f=>by have:=g x f;omega,Yi hl]
  |succ j=>
   rw[Z9]at h1 h2;exact jj b c _ j d q i h1 h2 (by rw[ZZ];exact hl)
variable {o:List (List Int)}{w:List Nat}
theorem DK (e:w.length=8)(f:∀x∈w,0<x)(V:Nat):Ct o w V (Se o (allM w V)):=by
 have d:∀n∈Se o (allM w V),rU w V n:=fun n c=>by
  obtain⟨a,b⟩:=OA (W6.1 c) f;exact⟨a.trans e,b⟩
 exact⟨NW fun n c=>(d n (W6.2 c)).1,d,fun g _ n c _=>W6.2 (RE (e.trans c.1.symm) f c.2)⟩
structure Gk (o:List (List Int))(l:List (List Nat))(fs:List (List Qm))(p:List Qm)(n:Nat)(tq:List (List Qm))(tr:List Qm)(Qs:List (List Qm))(R:List Qm):Prop where
 prog:aW o Sq PR XL (Wz o fs 0) false n (Va o p) (List.replicate (Wz o fs 0).length []) [] tq tr
 ref:ma o PR XL fs p (List.replicate fs.length []) [] Qs R
 GF:∀q∈tq,Tk q/\q.length<60000
 GD:tq.length=(Wz o fs 0).length
 GC:Tk tr
 GB:tr.length<60000
 same:P0 (Wz o fs 0) tq (List.replicate fs.length [])=Qs
 rest:Va [] tr=R
 Gn:∀q∈Qs,PR q
 Gm:PR R
 GH:Nz tr
 nd:∀u∈tr,∀d∈Wz o fs 0,X9 d.1.2 u.2=false
 Gq:SD o fs (fun n=>n∈l) fun φ=>Wg p φ-Wg tr φ
theorem di {a k V C:Nat}{b:List (List Qm)}(Y:Cx o w V a k b (Wz o b 0)){l:List (List Nat)}(ls:Ct o w V l)(E:l.length<49000){p:List Qm}(hp:Pl p)(N:∀u∈p,u.2∈l)(hC:Cf C p)(L:1<=C)(S:C*(2*a)^l.length*a<4294967296^k):∃n B G H R,Gk o l b p n B G H R:=by
 have Z:=zA o Y.Gr;have O:QI o (Wz o b 0) l (List.replicate (Wz o b 0).length []):=by
  refine⟨by simp,fun j q d' v m=> ?_⟩;have N:=Zt v;obtain rfl:=(List.mem_replicate.1 N).2;exact⟨Nz.nil,Sz.nil,(fun _ h=>by cases h),by simp;omega⟩
 have P:RI o (Wz o b 0) l []:=⟨Nz.nil,Sz.nil,(fun _ h=>by cases h),by simp;omega,(fun _ h=>by cases h)⟩;have K:∀(j:Nat) (d:Dv),(Wz o b 0)[j]? =some d->d.2.2.2<b.length:=fun j d h=>(Zd.1 (Z.at_ j d h)).1
 have F:Ax b (Wz o b 0) (Va o p) (List.replicate (Wz o b 0).length []) [] p (List.replicate b.length []) []:=by
  refine⟨hp,fun φ=>(P2 φ p).symm,Pl.nil,fun _=>rfl,by simp,fun j d q v m=> ?_,fun i _ f=> ?_⟩
  ·obtain rfl:=(List.mem_replicate.1 (Zt m)).2;exact⟨[],by rw[Yp,if_pos (K j d v)],Pl.nil,fun _=>rfl⟩
  ·rw[Yp,if_pos f]
 obtain⟨n,B,G,H,R,k1,I,x,k4,g,k6⟩:=N3 Y Z l ls E (Rv hp.Nd) (fun u hu=>N u ((Vy o p).mem_iff.1 hu)) (hC.sub fun t ht=>(Vy o p).mem_iff.1 ht) L S O P F;have s:∀q∈B,Nz q/\PR q:=fun q z=>by
  obtain⟨j,r⟩:=ZM.1 z;have y:j<(Wz o b 0).length:=by rw[<-I.len];exact(Zd.1 r).1
  obtain⟨m1,m2,m3,m4⟩:=I.at_ j q _ r (Zg y);exact⟨m1,m2,by simp at m4;omega⟩
 have hR:Va [] G=R:=si g.EB x.Nd g.rR;have U:PR R:=PR.perm (us:=G) ⟨x.sz,by have:=x.len;simp at this;omega⟩ (aq g.EB.Nd x.Nd g.rR);have T:=lG o b 0;have c:∀i,i<b.length->(∃(j:Nat) (d:Dv) (q:List Qm),(Wz o b 0)[j]? =some d/\B[j]? =some q/\d.2.2.2=i)\/∀(j:Nat) (d:Dv),(Wz o b 0)[j]? =some d->d.2.2.2≠i:=fun i f=>by
  by_cases h:∃d∈Wz o b 0,d.2.2.2=i
  ·obtain⟨d,M,rfl⟩:=h;obtain⟨j,r⟩:=ZM.1 M;have y:=(Zd.1 r).1;exact .inl ⟨j,d,_,r,Zg (by rw[I.len];exact y),rfl⟩
  ·exact .inr fun j d r e=>h ⟨d,Zt r,e⟩
 have A:P0 (Wz o b 0) B (List.replicate b.length [])=H:=by
  apply List.ext_getElem?;intro i;by_cases f:i<b.length
  ·rcases c i f with⟨j,d,q,v,m,rfl⟩|h
   ·obtain⟨Q,J,W,X⟩:=g.at_ j d q v m;rw[jj _ _ _ j d q T v m (by simpa using f),J,si W (s q (Zt m)).1 X]
   ·rw[bG _ _ _ i fun d M=>by
     obtain⟨j,r⟩:=ZM.1 M;exact h j d r,g.FO i h f,Yp,if_pos f]
  ·rw[Yv (by rw[ji];simp;omega),Yv (by rw[g.len];omega)]
 refine⟨n,B,G,H,R,k1,k4,fun q z=>⟨(s q z).1.nd,by have:=(s q z).2.2;omega⟩,I.len,x.Nd.nd,by have:=x.len;simp at this;omega,A,hR,fun Q hQ=> ?_,U,x.Nd,x.nd,k6.congr fun φ=>by rw[P2];simp only[Wg];grind⟩;obtain⟨i,f⟩:=ZM.1 hQ;have D:i<b.length:=by rw[<-g.len];exact(Zd.1 f).1
 rcases c i D with⟨j,d,q,v,m,rfl⟩|h
 ·obtain⟨Q',J,W,X⟩:=g.at_ j d q v m;rw[f]at J;cases J;have z:=s q (Zt m);exact PR.perm z.2 (aq W.Nd z.1 X)
 ·have:=g.FO i h D;rw[f]at this;cases this;exact⟨Sz.nil,by simp⟩
end Go.Proofs.YtefpgecinlekpaaGreat
namespace Go.Proofs.YtefpgecinlekpaaGreat
open Go.Ev Go.Num
theorem jq (m:List Nat)(s:Qm):XR (1,m) s=(s.1⁻¹,WW m s.2):=by unfold XR;rw[Rat.div_def,Rat.one_mul]
theorem xI (s:Qm)(a:List Qm)(t:Qm)(b:List Qm):Df s a t b=bo s a t b:=by unfold Df bo VF;rw[jq,jq]
theorem qD {a:List (List PL)}(h:X2 a []):a=[]:=by cases h;rfl
theorem NV {o:List (List Int)}{f:List Qm}(h:f≠[]):∃s a,Va o f=s::a:=by
 cases b:Va o f with
 |nil=>
  have:=Sh o f;rw[b]at this;exact absurd (Yk this.symm) h
 |cons s a=>exact⟨s,a,rfl⟩
variable {o:List (List Int)}{w:List Nat}
theorem Bt {B:Xr}(J:Std B)(W:PA o w){y L:PL}(so:S6 y o)(X:Xs B 49 [.one y] (.one (.bool true))){i:List (List Qm)}(D:∀f∈i,U5 3 12 4 f){ls:List PL}(sl:Sl L (Xu ls))(N:T6 ls i)(hl:i.length<1000){f g:List Qm}(C:f∈i)(E:g∈i){p q:PL}(hp:PQ p f)(hq:PQ q g):
  (∃s,Xs B 25 [.one p,.one q,.one y] (.XY [.one s,.one (.int .i64 (.ofNat 10))])/\(f=[]\/g=[]))\/
  (∃s r,Xs B 25 [.one p,.one q,.one y] (.XY [.one s,.one (.int .i64 (.ofNat 0))])/\Xs B 68 [.one s,.one L,.one y] (.one r)/\Sl r []/\∀s t,Wl o f=some s->Wl o g=some t->SB o w i f g s t)\/
  (∃s r,∃G:List (List PL),Xs B 25 [.one p,.one q,.one y] (.XY [.one s,.one (.int .i64 (.ofNat 0))])/\Xs B 68 [.one s,.one L,.one y] (.one r)/\Sl r G/\0<G.length/\¬Ep o w i):=by
 have H:=D f C;have I:=D g E;by_cases h0:f=[]\/g=[]
 ·exact .inl ⟨.XJ,cH J so W.o8 W.ol X hp hq (by have:=H.len;omega) (by have:=I.len;omega) h0,h0⟩
 ·obtain⟨s,v,G⟩:=NV (o:=o) (fun h=>h0 (.inl h):f≠[]);obtain⟨t,x,et⟩:=NV (o:=o) (fun h=>h0 (.inr h):g≠[]);have d:Q0 o w 12 i (s,f,v,0):=gA (by omega) W C (n:=4) (by omega) H G 0;have e:Q0 o w 12 i (t,g,x,0):=gA (by omega) W E (n:=4) (by omega) I et 0;have Y:Vr w (QK (s,f,v,0) (t,g,x,0))<=96:=by
   have l:=W.le 3 _ (H.lN _ (We d.pl d.ld).1);have m:=W.le 3 _ (I.lN _ (We e.pl e.ld).1);have:=dK w s.2 t.2;show Vr w (Wb s.2 t.2)<=96;have a0:Vr w s.2<=16*3:=l;have a1:Vr w t.2<=16*3:=m;omega
  have F:(BK o w (s,f,v,0) (t,g,x,0)).length<=17000:=ZD tp (ZD (ON w Y) W.num);have T:=iW (a:=12) (by omega) F;have b:wN (s,f,v,0) (t,g,x,0):=qa (k:=K1) (by decide) (by
   have:=iW (a:=12) (n:=0) (by omega) (by omega);rw[Nat.pow_zero]at this;omega) W.w8 W.wp (by omega) d e
  have hs:Wl o f=some s:=d.ld;have ht:Wl o g=some t:=e.ld;have e1:=jq (Wb s.2 t.2) s;have e2:=jq (Wb s.2 t.2) t;obtain⟨r0,r1,r2⟩:=eW J so W.o8 W.ol X hp hq (by have:=H.len;omega) (by have:=I.len;omega) hs ht b.ht b.hs b.t0 b.s0 b.zt b.zs (by rw[e1];exact b.ot) (by rw[e2];exact b.os) (by rw[e1];exact b.ht.inv) (by rw[e2];exact b.hs.inv) (by rw[e1];exact Od b.t0) (by rw[e2];exact Od b.s0) (by rw[e1];exact b.rt) (by rw[e2];exact b.rs);rw[xI]at r2;have cx:=W.cx (c:=12) (n:=4) (k:=K1) (by omega) (by omega) (by decide) (V:=Vr w (QK (s,f,v,0) (t,g,x,0))) (by omega) D;have Z:=CO W.w8 W.wp d e;obtain⟨n,tq,tr,Qs,R,S⟩:=di cx Z (by omega) (eI d e) (fun u U=>by
   obtain⟨l,m⟩:=sh d e u U;exact tj W.w8 W.wp l m) (qb d e) (by omega) T
  obtain⟨a2,lr,d1,d2,d3,d4⟩:=tW J so W.o8 W.ol sl N (fun f C=>by have:=(D f C).len;omega) (by omega) X (lp:=.Xv r0) ⟨_,.Xv,r2⟩ S.ref;have d5:=uR J d1;obtain⟨K,A,z⟩:=d3;by_cases j:tr=[]
  ·refine .inr (.inl ⟨_,lr,r1,d5,?_,fun s' t' l m=> ?_⟩)
   ·have hR:R=[]:=by rw[<-S.rest,j];rfl
    rw[hR]at z;rw[qD z]at A;exact A
   ·rw[hs]at l;rw[ht]at m;cases l;cases m;exact iZ W.w8 W.wp d e (S.Gq.congr fun φ=>by rw[j];simp only[Wg];grind)
  ·refine .inr (.inr ⟨_,lr,K,r1,d5,A,?_,fun hA=>j ?_⟩)
   ·rw[z.length,<-S.rest,Sh];exact List.length_pos_iff.2 j
   ·refine DT (hA (Vr w (QK (s,f,v,0) (t,g,x,0)))) S.GH ?_ fun u U f' M s' O=> ?_
    ·have q1:=sg d e (P:=fun n=>L8 n/\Vr w n<=Vr w (QK (s,f,v,0) (t,g,x,0))) ⟨om d e,Zh _⟩;have q2:=(S.Gq.mono (Q:=fun n=>L8 n/\Vr w n<=Vr w (QK (s,f,v,0) (t,g,x,0))) fun n hn=>(dU W.w8 W.wp hn).1).smul (-1);exact(q1.plus q2).congr fun φ=>by grind
    ·obtain⟨d',l,m,-⟩:=OZ i 0 (fun f C=>(D f C).pl) f' M s' O;rw[<-m];exact S.nd u U d' l
theorem yc {B:Xr}(F:Std B)(W:PA o w){z L:PL}(R:S6 z o)(J:Xs B 49 [.one z] (.one (.bool true))){c:List (List Qm)}(d:∀f∈c,U5 3 12 4 f){P:List PL}(Q:Sl L (Xu P))(j:T6 P c)(H:c.length<1000){f:List Qm}(G:f∈c){p:PL}(I:PQ p f):∀{rest:List PL} {l:List (List Qm)},T6 rest l->(∀g∈l,g∈c)->
  ∃b,(X0 B fun E _=>AL E L z p rest b)/\(b=false->∀g∈l,∀s t,Wl o f=some s->Wl o g=some t->SB o w c f g s t)/\(b=true->¬Ep o w c)
 |[],_,.nil,_=>⟨false,X0.of fun _ _=>.nil,(fun _ g d=>by cases d),(fun h=>by cases h)⟩
 |q::rest,g::l,.cons hq h,hm=>by
  obtain⟨b,M,N,O⟩:=yc F W R J d Q j H G I h fun g d=>hm g (Zc _ d)
  have y:=hm g (Ze ..);rcases Bt F W R J d Q j H G y I hq with⟨s,k,h0⟩|⟨s,r,k,A,C,D⟩|⟨s,r,T,k,A,C,D,S⟩
  ·refine⟨b,(M.and k.Xi).mono fun E K ⟨u,e1⟩=>.zero e1 u,fun x v a m n e i=> ?_,O⟩;rcases Zk.1 a with rfl|a
   ·rcases h0 with rfl|rfl
    ·cases e
    ·cases i
   ·exact N x v a m n e i
  ·refine⟨b,(M.and (k.Xi.and A.Xi)).mono fun E K ⟨u,e1,e2⟩=>.ok e1 e2 C u,fun x v a m n e i=> ?_,O⟩;rcases Zk.1 a with rfl|a
   ·exact D m n e i
   ·exact N x v a m n e i
  ·exact⟨true,(k.Xi.and A.Xi).mono fun E K ⟨e1,e2⟩=>.bad e1 e2 C D,(fun h=>by cases h),fun _=>S⟩
def CA (o:List (List Int))(w:List Nat)(fs:List (List Qm)):List (List Qm)->Prop
 |[]=>True
 |f::gs=>(∀g∈gs,∀s t,Wl o f=some s->Wl o g=some t->SB o w fs f g s t)/\CA o w fs gs
theorem CA.get {b:List (List Qm)}:∀{a:List (List Qm)},CA o w b a->∀f∈a,∀g∈a,f≠g->∀s t,Wl o f=some s->Wl o g=some t->SB o w b f g s t
 |[],_,f,hf,_,_,_,_,_,_,_=>by cases hf
 |x::a,h,f,hf,g,hg,hne,s,t,hs,ht=>by
  obtain⟨c,d⟩:=h;rcases Zk.1 hf with rfl|hf'
  ·rcases Zk.1 hg with rfl|hg'
   ·exact absurd rfl hne
   ·exact c g hg' s t hs ht
  ·rcases Zk.1 hg with rfl|hg'
   ·exact(c f hf' t s ht hs).sym
   ·exact d.get f hf' g hg' hne s t hs ht
theorem yd {B:Xr}(k:Std B)(W:PA o w){j L:PL}(s:S6 j o)(m:Xs B 49 [.one j] (.one (.bool true))){a:List (List Qm)}(d:∀f∈a,U5 3 12 4 f){n:List PL}(r:Sl L (Xu n))(e:T6 n a)(l:a.length<1000):∀{rest:List PL} {i:List (List Qm)},T6 rest i->(∀g∈i,g∈a)->
  ∃b,(X0 B fun E _=>Ek E L j rest b)/\(b=false->CA o w a i)/\(b=true->¬Ep o w a)
 |[],_,.nil,_=>⟨false,X0.of fun _ _=>.nil,(fun _=>trivial),(fun h=>by cases h)⟩
 |p::rest,f::i,.cons hp h,hm=>by
  obtain⟨b,v,x,y⟩:=yd k W s m d r e l h fun g d=>hm g (Zc _ d)
  obtain⟨c,q,z,A⟩:=yc k W s m d r e l (hm f (Ze ..)) hp h fun g d=>hm g (Zc _ d)
  cases c with
  |false=>exact⟨b,(v.and q).mono fun E K ⟨t,e1⟩=>.next e1 t,(fun u=>⟨z rfl,x u⟩),y⟩
  |true=>exact⟨true,q.mono fun E K e1=>.stop e1,(fun h=>by cases h),fun _=>A rfl⟩
theorem yb {B:Xr}(i:Std B)(W:PA o w){e L:PL}(t:S6 e o)(j:Xs B 49 [.one e] (.one (.bool true))){c:List (List Qm)}(d:∀f∈c,U5 3 12 4 f){k:List PL}(l:Sl L (Xu k))(a:T6 k c)(n:c.length<1000):
  ∃r,Xs B 21 [.one L,.one e] (.one (.bool r))/\(r=true↔Ep o w c):=by
 obtain⟨b,p,q,s⟩:=yd i W t j d l a n a fun g d=>d
 refine⟨!b,kI i l (by have:=a.length;omega) j p,?_⟩;cases b with
 |false=>exact⟨(fun _ V=>oJ W.w8 W.wp (fun f m=>(d f m).pl) (q rfl).get V),(fun _=>rfl)⟩
 |true=>exact⟨(fun h=>by cases h),(fun h=>absurd h (s rfl))⟩
end Go.Proofs.YtefpgecinlekpaaGreat
