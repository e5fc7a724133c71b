/- Division by monic polynomials in a region of monomials: plain facts. -/
import Derived.Test.YtidginchkjhobaaGreatGrS
import Derived.Test.YtidginchkjhobaaGreatGof
namespace Go.Proofs.YtidginchkjhobaaGreat
open Go.Ev Go.Num
theorem Gh {h:Nat}(c:h<=1200000000000):∃k,k<200000000000/\(32:Nat)^h<=4294967296^k:=by
 refine⟨h*5 / 32+1,by omega,?_⟩;have a:(32:Nat)^h=2^(5*h):=by rw[show(32:Nat)=2^5 from rfl,<-Nat.pow_mul]
 have b:(4294967296:Nat)^(h*5 / 32+1)=2^(32*(h*5 / 32+1)):=by rw[show(4294967296:Nat)=2^32 from rfl,<-Nat.pow_mul]
 rw[a,b];exact Yt (by decide) (by omega)
theorem Fr.Ef {D c C h:Nat}{x:Rat}(f:Fr D c x)(d:0<D)(a:D<=C)(b:c<=C)(i:2*C<=32^h)(e:h<=1200000000000):Sq x:=by
 obtain⟨k,g,j⟩:=Gh e;exact f.sq g d a b (by omega)
theorem VQ.NU {D C h:Nat}{a:Z'}(g:VQ D C a)(d:0<D)(b:D<=C)(c:2*C<=32^h)(e:h<=1200000000000):Sz a:=fun t f=>(g t f).Ef d b (Ze _) c e
theorem VQ.scale {D c:Nat}{a:Z'}(h:VQ D c a)(E:Nat):VQ (D*E) (c*E) a:=fun t b=>Fr.scale (h t b)
def Up (D C D' C':Nat):Prop:=∃E,0<E/\D'=D*E/\C*E<=C'
theorem Up.refl (D C:Nat):Up D C D C:=⟨1,by decide,by omega,by omega⟩
theorem Up.trans {D C d c b a:Nat}(h:Up D C d c)(k:Up d c b a):Up D C b a:=by
 obtain⟨E,e,rfl,e2⟩:=h;obtain⟨F,f,rfl,g⟩:=k;refine⟨E*F,Yi e f,by rw[Z3],Zx ?_ g⟩;rw[<-Z3];exact Zn _ e2
def V6:S'->S'->(P'->Rat)->Rat
 |q::qs,f::fs=>fun φ=>(X2 q fun m=>X2 f fun k=>φ (Xg m k))+V6 qs fs φ
 |_,_=>fun _=>0
theorem gG:∀{qs d:S'} {i:Nat} {q f q2:Z'},qs[i]? =some q->d[i]? =some f->∀c,V6 (qs.set i q2) d c+(X2 q fun m=>X2 f fun k=>c (Xg m k))=V6 qs d c+X2 q2 fun m=>X2 f fun k=>c (Xg m k)
 |[],_,i,_,_,_,h,_,_=>by simp at h
 |_::_,[],i,_,_,_,_,h,_=>by simp at h
 |a::qs,b::d,0,q,f,q2,h1,h2,c=>by
  simp only[Ym,Za]at h1 h2;subst h1;subst h2;simp only[List.set_cons_zero,V6];grind
 |a::qs,b::d,i+1,q,f,q2,h1,h2,c=>by
  rw[Z2]at h1 h2;have e:=gG (q2:=q2) h1 h2 c;simp only[YQ,V6];grind
theorem aV:∀(n:Nat) (a:S') (b:P'->Rat),V6 (List.replicate n []) a b=0
 |0,_,_=>rfl
 |_+1,[],_=>rfl
 |n+1,f::a,b=>by
  have c:=aV n a b;simp only[List.replicate_succ,V6,X2,c];grind
theorem PX {b c:Z'}(d:Pl b)(f:Pl c)(k:∀t∈b,∀u∈c,t.2≠u.2){x:Qm}(i:x∈Wh b c):x∈b\/x∈c:=by
 have h:=d.add f;have a:=h.SQ.Tj x i;have h0:=h.SQ.nz x i;rw[Dk d.q8 f.q8]at a;by_cases e:∃t∈b,t.2=x.2
 ·left;obtain⟨t,g,j⟩:=e;have z:SN c x.2=0:=Pv fun u l e2=>k t g u l (j.trans e2.symm)
  rw[z,Rat.add_zero]at a;have:=d.SQ.mem (m:=x.2) (by rw[a];exact h0)
  rwa[a]at this
 ·right;have z:SN b x.2=0:=Pv fun t g e2=>e ⟨t,g,e2⟩
  rw[z,Rat.zero_add]at a;have:=f.SQ.mem (m:=x.2) (by rw[a];exact h0)
  rwa[a]at this
theorem Pe {o:M'}{l:J'}(b:DP o l)(a:∀n∈l,L8 n){p:Z'}(c:Pl p)(h:∀t∈p,t.2∈l):p.length<=l.length:=by
 have:=PO.dH (o:=o) b a (U5 c.SQ) fun t d=>h t ((WL o p).mem_iff.1 d)
 rwa[T7]at this
structure Fe (o:M')(A:Nat)(c:Rat)(m:P')(f:Z'):Prop where
 pl:Pl f
 ld:XR o f=some (c,m)
 cf:∃D,0<D/\D<=A/\Fr D A c⁻¹/\∀u∈f,Fr D A (c⁻¹*u.1)
 sz:QO f
variable {o:M'}{A:Nat}{lc:Rat}{m:P'}{f:Z'}
theorem Fe.m8 (h:Fe o A lc m f):L8 m:=(XK h.pl h.ld).2.1
theorem Fe.c0 (h:Fe o A lc m f):lc≠0:=(XK h.pl h.ld).2.2.1
theorem Fe.lt (h:Fe o A lc m f){u:Qm}(b:u∈f)(a:u.2≠m):WO o u.2 m:=by
 rcases(XK h.pl h.ld).2.2.2 u b with e|e
 ·rw[e]at a;exact absurd rfl a
 ·exact e
def V4 (c:P'->Nat):J'->Nat
 |[]=>0
 |n::l=>c n+V4 c l
structure Rg (o:M')(fs:S')(c:P'->Nat)(l:J'):Prop where
 dc:DP o l
 ok:∀n∈l,XD n
 dv:∀δ∈l,WE o δ fs 0=none\/∃i f lc m A,WE o δ fs 0=some i/\fs[i]? =some f/\Fe o A lc m f/\2*A<=32^c δ/\Wn m δ=true/\∀u∈f,u.2≠m->Xg (XQ δ m) u.2∈l
theorem Rg.l8 {a:S'}{c:P'->Nat}{l:J'}(h:Rg o a c l):∀n∈l,L8 n:=fun n b=>(h.ok n b).1
theorem Rg.tail {j:S'}{c:P'->Nat}{p:P'}{l:J'}(h:Rg o j c (p::l)):Rg o j c l:=by
 obtain⟨r,s⟩:=Zu.1 h.dc;refine⟨s,fun n a=>h.ok n (Zb _ a),fun n a=> ?_⟩;rcases h.dv n (Zb _ a)with e|⟨i,f,lc,m,A,e1,e2,e3,e4,e5,e6⟩
 ·exact .inl e
 ·refine .inr ⟨i,f,lc,m,A,e1,e2,e3,e4,e5,fun u d b=> ?_⟩;rcases Zj.1 (e6 u d b)with k|k
  ·exfalso;have g:=h.l8 n (Zb _ a);have q:=h.l8 p (Zc ..);have t:=Vy g e3.m8;have:=(e3.lt d b).add t (e3.pl.q8 u d) e3.m8;rw[k,XW (XQ n m) m,W6 (e3.m8.trans g.symm) e5]at this;exact(r n a).asymm g q this
  ·exact k
theorem CI {fs:S'}{c:P'->Nat}{NN:Nat}(b1:NN<=40000):∀(l:J'),Rg o fs c l->l.length<1000->∀{left R:Z'} {Qs:S'} {D C H:Nat},Pl left->(∀u∈left,u.2∈l)->0<D->D<=C->2*C<=32^H->H+V4 c l<=1200000000000->VQ D C left->
  Qs.length=fs.length->(∀Q∈Qs,Pl Q/\VQ D C Q/\Q.length+l.length<NN)->Pl R->VQ D C R->R.length+l.length<NN->(∀u∈R,u.2∉l)->
  ∃j I T S,eA o QO XD fs left Qs R j I/\0<T/\T<=S/\2*S<=32^(H+V4 c l)/\Up D C T S/\j.length=fs.length/\(∀Q∈j,Pl Q/\VQ T S Q/\Q.length<NN)/\Pl I/\VQ T S I/\I.length<NN/\
   (∀u∈I,u∈R\/(u.2∈l/\WE o u.2 fs 0=none))/\
   (∀(i:Nat) (Q' f:Z'),j[i]? =some Q'->fs[i]? =some f->∀u∈Q',(∃Q,Qs[i]? =some Q/\∃v∈Q,v.2=u.2)\/∃lc m A,Fe o A lc m f/\Xg u.2 m∈l)/\
   ∀φ,X2 left φ+X2 R φ+V6 Qs fs φ=X2 I φ+V6 j fs φ
 |l,hr,_,[],R,Qs,D,C,H,_,_,hD,r,hH,hc,_,hQl,K,pR,fR,lR,_=>by
  have c1:(32:Nat)^H<=32^(H+V4 c l):=Yt (by decide) (by omega);refine⟨Qs,R,D,C,.done,hD,r,by omega,.refl _ _,hQl,fun Q h=>⟨(K Q h).1,(K Q h).2.1,by have:=(K Q h).2.2;omega⟩,pR,fR,by omega,fun u a=>.inl a,fun i Q' f h1 _ u a=>.inl ⟨Q',h1,u,a,rfl⟩,fun φ=> ?_⟩;simp only[X2];grind
 |[],_,_,t::p,_,_,_,_,_,_,hm,_,_,_,_,_,_,_,_,_,_,_=>by have:=hm t (Zc ..);cases this
 |d::l,hr,hln,t0::p0,R,Qs,D,C,H,N,hm,hD,r,hH,hc,fl,hQl,K,pR,fR,lR,a2=>by
  obtain⟨p1,p2⟩:=Zu.1 hr.dc;have d8:=hr.l8 d (Zc ..);simp only[V4,Zi]at hc hln lR K;obtain⟨t,ht⟩:∃t,XR o (t0::p0)=some t:=⟨_,rfl⟩;generalize b3:t0::p0=left at *;clear b3;obtain⟨t1,t2,t3,t4⟩:=XK N ht;have b0:H<=1200000000000:=by omega
  have b7:QO left:=⟨fl.NU hD r hH b0,by have:=Pe hr.dc hr.l8 N hm;simp only[Zi]at this;omega⟩;have d7:QO R:=⟨fR.NU hD r hH b0,by omega⟩;have a3:∀{x:Qm},Sq x.1->QO [x]:=fun{x} h=>⟨fun y hy=>by rw[ZS.1 hy];exact h,by simp⟩
  have st:Sq t.1:=b7.1 t t1;by_cases g:t.2=d
  ·have O:=dz t3 t2;rcases hr.dv d (Zc ..)with hf|⟨i,f,lc,m,A,hf,hfi,F,hA,hdv,hcl⟩
   ·
    have pn:=VH O;have J:∀φ,X2 (Wh left (Wu [t])) φ=X2 left φ-t.1*φ t.2:=fun φ=>by
     rw[VC φ _ _ _ (Ze _) N.q8 pn.q8,RR];simp only[X2];grind
    have q:=N.add pn;have z:SN (Wh left (Wu [t])) d=0:=by
     rw[Wo,J,<-Wo,<-g,N.SQ.Tj t t1];unfold WW;rw[if_pos rfl];grind
    have L:∀u∈Wh left (Wu [t]),u.2∈l:=fun u a=>by
     have B:=q.SQ.Tj u a;have G:u.2≠d:=fun e=>q.SQ.nz u a (by rw[<-B,e,z])
     rcases Vj _ (Ze _) N.q8 pn.q8 a with⟨v,hv,e⟩|⟨v,hv,e⟩
     ·rw[<-e]at G⊢;exact(Zj.1 (hm v hv)).resolve_left G
     ·obtain⟨w,hw,e2,-⟩:=Ph hv;rw[ZS.1 hw]at e2;exact absurd (by rw[<-e,e2,g]) G
    have b2:∀u∈R,∀v∈[t],u.2≠v.2:=fun u a v hv e=>a2 u a (by rw[e,ZS.1 hv,g];exact Zc ..)
    have a7:VQ D C (Wh left (Wu [t])):=fun u a=>by
     have B:=q.SQ.Tj u a;rw[Wo,J,<-Wo]at B;have G:WW u.2 t.2=0:=by
      unfold WW;rw[if_neg];intro e;have:=L u a;rw[<-e,g]at this;exact(p1 d this).ne rfl
     rw[G,Rat.mul_zero,Rat.sub_eq_add_neg,Rat.neg_zero,Rat.add_zero]at B;have:=N.SQ.mem (m:=u.2) (by rw[B];exact q.SQ.nz u a);have:=fl _ this
     rwa[B]at this
    have a6:VQ D C (Wh R [t]):=fun u a=>by
     rcases PX pR O b2 a with h|h
     ·exact fR u h
     ·rw[ZS.1 h];exact fl t t1
    have d2:=UO _ R [t] (Ze _);simp only[Zi,Zr]at d2;have c2:∀u∈Wh R [t],u.2∉l:=fun u a h=>by
     rcases PX pR O b2 a with k|k
     ·exact a2 u k (Zb _ h)
     ·rw[ZS.1 k,g]at h;exact(p1 d h).ne rfl
    obtain⟨j,I,T,S,g1,g2,g3,g4,g5,g6,g7,g8,g9,U,V,W,X⟩:=CI b1 l hr.tail (by omega) q L hD r hH (by omega) a7 hQl (fun Q h=>⟨(K Q h).1,(K Q h).2.1,by have:=(K Q h).2.2;omega⟩) (pR.add O) a6 (by omega) c2;have c1:(32:Nat)^(H+V4 c l)<=32^(H+V4 c (d::l)):=Yt (by decide) (by simp only[V4];omega);refine⟨j,I,T,S,.rem b7 d7 (a3 st) ht (by rw[g];exact hf) g1,g2,g3,by omega,g5,g6,g7,g8,g9,U,fun u a=> ?_,fun i Q' f h1 h2 u a=> ?_,fun φ=> ?_⟩
    ·rcases V u a with h|⟨h,h'⟩
     ·rcases PX pR O b2 h with k|k
      ·exact .inl k
      ·rw[ZS.1 k,g];exact .inr ⟨Zc ..,hf⟩
     ·exact .inr ⟨Zb _ h,h'⟩
    ·rcases W i Q' f h1 h2 u a with h|⟨lc,m,A,M,k2⟩
     ·exact .inl h
     ·exact .inr ⟨lc,m,A,M,Zb _ k2⟩
    ·rw[<-X,J,VC φ _ _ _ (Ze _) pR.q8 O.q8];simp only[X2];grind
   ·
    have f8:=F.m8;have b4:L8 (XQ d m):=Vy d8 f8;have a0:Xg (XQ d m) m=d:=by rw[XW];exact W6 (f8.trans d8.symm) hdv
    obtain⟨k,hk⟩:∃k,k=t.1*lc⁻¹:=⟨_,rfl⟩;have Z:XZ t (lc,m)=(k,XQ d m):=by
     show(t.1 / lc,XQ t.2 m)=_;rw[Rat.div_def,g,hk]
    have b6:=F.c0;have k0:k≠0:=by rw[hk];exact RJ t3 (QV b6)
    have c9:k*lc=t.1:=by rw[hk,Rat.mul_assoc,Rat.inv_mul_cancel _ b6,Rat.mul_one]
    have d5:=VJ k0 b4 F.pl;have a4:=VH d5;have q:=N.add a4;have J:∀φ,X2 (Wh left (Wu (XG k (XQ d m) f))) φ=X2 left φ-k*X2 f fun n=>φ (Xg (XQ d m) n):=fun φ=>by
     rw[VC φ _ _ _ (Ze _) N.q8 a4.q8,RR,Tr];grind
    have s1:=(XK F.pl F.ld).1;have z:SN (Wh left (Wu (XG k (XQ d m) f))) d=0:=by
     rw[Wo,J,<-Wo,iF F.pl s1 (φ:=fun n=>WW d (Xg (XQ d m) n)) fun u a=> ?_]
     ·have:=N.SQ.Tj t t1;rw[g]at this;rw[this];show t.1-k*(WW d (Xg (XQ d m) m)*lc)=0;rw[a0];unfold WW;rw[if_pos rfl,Rat.one_mul,c9];grind
     ·by_cases e:u.2=m
      ·exact .inl (F.pl.uniq s1 a e)
      ·right;have:=(F.lt a e).add b4 (F.pl.q8 u a) f8;rw[a0]at this;show WW d (Xg (XQ d m) u.2)=0;unfold WW;rw[if_neg this.ne]
    have L:∀u∈Wh left (Wu (XG k (XQ d m) f)),u.2∈l:=fun u a=>by
     have B:=q.SQ.Tj u a;have G:u.2≠d:=fun e=>q.SQ.nz u a (by rw[<-B,e,z])
     refine List.mem_of_ne_of_mem G ?_;rcases Vj _ (Ze _) N.q8 a4.q8 a with⟨v,hv,e⟩|⟨v,hv,e⟩
     ·rw[<-e];exact hm v hv
     ·obtain⟨w,hw,e2,-⟩:=Ph hv;obtain⟨x,hx,e3,-⟩:=Vo hw;by_cases ex:x.2=m
      ·rw[<-e,e2,e3,ex,a0];exact Zc ..
      ·rw[<-e,e2,e3];exact hcl x hx ex
    obtain⟨E,q1,q2,q0,q3⟩:=F.cf;have A1:1<=A:=by omega
    have e0:C*E<=C*A:=Yb _ q2;have b8:2*(2*A*C)=2*A*(2*C):=by rw[Nat.mul_left_comm]
    have a9:2*(2*A*C)<=32^(H+c d):=by
     rw[b8,Nat.add_comm H,Yu];exact ZT hA hH
    have e2:2*A*C=C*A+C*A:=by rw[ZR C A,<-Nat.two_mul,Z3]
    have a8:0<D*E:=Yi hD q1;have Y:D*E<=2*A*C:=by
     have:=ZT r q2;omega
    have b9:VQ (D*E) (C*A) (XG k (XQ d m) f):=fun u a=>by
     obtain⟨x,hx,-,e⟩:=Vo a;rw[e,hk,Rat.mul_assoc];exact(fl t t1).mul (q3 x hx)
    have a7:VQ (D*E) (2*A*C) (Wh left (Wu (XG k (XQ d m) f))):=by
     have:=VQ.Wh N.q8 a4.q8 (fl.scale E) b9.Wu;exact this.mono (by omega)
    have a6:VQ (D*E) (2*A*C) R:=(fR.scale E).mono (by omega);have c5:i<fs.length:=(Zf.1 hfi).1;obtain⟨Q,a1⟩:∃Q,Qs[i]? =some Q:=⟨_,Zg (by rw[hQl];exact c5)⟩;obtain⟨n1,n2,n3⟩:=K Q (Zk a1);have a5:Pl [(k,XQ d m)]:=dz k0 b4;have fk:Fr (D*E) (C*A) k:=by rw[hk];exact(fl t t1).mul q0
    have fo:VQ (D*E) (C*A) [(k,XQ d m)]:=fun u a=>by rw[ZS.1 a];exact fk
    have d1:=UO _ Q [(k,XQ d m)] (Ze _);simp only[Zi,Zr]at d1;have c7:VQ (D*E) (2*A*C) (Wh Q [(k,XQ d m)]):=by
     exact(VQ.Wh n1.q8 a5.q8 (n2.scale E) fo).mono (by omega)
    have c8:∀P∈Qs.set i (Wh Q [(k,XQ d m)]),Pl P/\VQ (D*E) (2*A*C) P/\P.length+l.length<NN:=fun P hP=>by
     rcases List.mem_or_eq_of_mem_set hP with h|rfl
     ·obtain⟨M,k2,k3⟩:=K P h;exact⟨M,(k2.scale E).mono (by omega),by omega⟩
     ·exact⟨n1.add a5,c7,by omega⟩
    obtain⟨j,I,T,S,g1,g2,g3,g4,g5,g6,g7,g8,g9,U,V,W,X⟩:=CI b1 l hr.tail (by omega) q L a8 Y a9 (by omega) a7 (by rw[ZL];exact hQl) c8 pR a6 (by omega) (fun u a h=>a2 u a (Zb _ h));have c6:QO f:=F.sz;have c3:H+c d<=1200000000000:=by omega
    have d9:QO (XG k (XQ d m) f):=⟨(b9.mono (b:=2*A*C) (by omega)).NU a8 Y a9 c3,by unfold XG;rw[ZP];exact F.sz.2⟩;have d4:∀u∈f,XD (Xg (XQ d m) u.2):=fun u a=>by
     by_cases e:u.2=m
     ·rw[e,a0];exact hr.ok d (Zc ..)
     ·exact hr.ok _ (hcl u a e)
    have d6:Sq ((lc,m):Qm).1:=c6.1 _ s1;have sk:Sq k:=(fk.mono (b:=2*A*C) (by omega)).Ef a8 Y (Ze _) a9 c3;have b5:eA o QO XD fs left Qs R j I:=by
     refine .div (s:=(lc,m)) b7 c6 (a3 st) (a3 d6) (by rw[Z];exact a3 sk) ⟨n2.NU hD r hH b0,by omega⟩ (by rw[Z];exact d9) b6 (by rw[Z];exact k0) (by rw[Z];exact d4) ht (by rw[g];exact hf) hfi F.ld (by rw[g];exact hdv) a1 ?_;rw[Z];exact g1
    refine⟨j,I,T,S,b5,g2,g3,by simp only[V4];rw[<-Nat.add_assoc];exact g4,Up.trans ⟨E,q1,rfl,by omega⟩ g5,g6,g7,g8,g9,U,fun u a=> ?_,fun i' Q' f' h1 h2 u a=> ?_,fun φ=> ?_⟩
    ·rcases V u a with h|⟨h,h'⟩
     ·exact .inl h
     ·exact .inr ⟨Zb _ h,h'⟩
    ·rcases W i' Q' f' h1 h2 u a with⟨P,M,v,k2,k3⟩|⟨d3,m',A',M,k2⟩
     ·rw[YK]at M;by_cases c4:i=i'
      ·subst c4;rw[if_pos rfl,if_pos (by rw[hQl];exact c5)]at M;cases M;rcases Vj _ (Ze _) n1.q8 a5.q8 k2 with⟨w,hw,e⟩|⟨w,hw,e⟩
       ·exact .inl ⟨Q,a1,w,hw,e.trans k3⟩
       ·right;rw[hfi]at h2;cases h2;refine⟨lc,m,A,F,?_⟩;rw[<-k3,<-e,ZS.1 hw,a0];exact Zc ..
      ·rw[if_neg c4]at M;exact .inl ⟨P,M,v,k2,k3⟩
     ·exact .inr ⟨d3,m',A',M,Zb _ k2⟩
    ·have h1:=gG (q2:=Wh Q [(k,XQ d m)]) a1 hfi φ;rw[VC _ _ _ _ (Ze _) n1.q8 a5.q8]at h1;have h2:=X φ;rw[J]at h2;simp only[X2]at h1;rw[<-h2];grind
  ·
   have L:∀u∈left,u.2∈l:=fun u a=>by
    refine List.mem_of_ne_of_mem (fun e=> ?_) (hm u a);have d0:=List.mem_of_ne_of_mem g (hm t t1);have:=p1 t.2 d0;rcases t4 u a with k|k
    ·rw[k]at e;exact g e
    ·rw[e]at k;exact k.asymm d8 t2 this
   obtain⟨j,I,T,S,g1,g2,g3,g4,g5,g6,g7,g8,g9,U,V,W,X⟩:=CI b1 l hr.tail (by omega) N L hD r hH (by omega) fl hQl (fun Q h=>⟨(K Q h).1,(K Q h).2.1,by have:=(K Q h).2.2;omega⟩) pR fR (by omega) (fun u a h=>a2 u a (Zb _ h));have c1:(32:Nat)^(H+V4 c l)<=32^(H+V4 c (d::l)):=Yt (by decide) (by simp only[V4];omega);refine⟨j,I,T,S,g1,g2,g3,by omega,g5,g6,g7,g8,g9,U,fun u a=>(V u a).imp_right fun h=>⟨Zb _ h.1,h.2⟩,fun i Q' f h1 h2 u a=>(W i Q' f h1 h2 u a).imp_right fun⟨lc,m,A,M,k2⟩=>⟨lc,m,A,M,Zb _ k2⟩,X⟩
end Go.Proofs.YtidginchkjhobaaGreat
namespace Go.Num
open Go.Ev
structure El where
 a:Nat
 b:Nat
 t:Nat
 h:Nat
def Su (a b:Nat):Nat:=32*a+b
def UB:List El->Nat->Nat->Option El
 |[],_,_=>none
 |e::l,a,b=>bif Nat.ble e.a a&&Nat.ble e.b b then some e else UB l a b
def scan (st:List El):List (Nat×Nat)->Nat->Nat->Nat->Nat×Nat×Nat
 |[],S,H,R=>(S,H,R)
 |(a,b)::ms,S,H,R=>
  bif Nat.testBit S (Su a b)then
   match UB st a b with
   |none=>scan st ms S H (Nat.lor R (Nat.shiftLeft 1 (Su a b)))
   |some e=>scan st ms (Nat.lor S (Nat.shiftLeft e.t (Su a b-Su e.a e.b))) (H+e.h) R
  else scan st ms S H R
def Dm (e f:El):Bool:=Nat.beq (Nat.min e.a f.a) 0&&Nat.beq (Nat.min e.b f.b) 0
def DT (e f:El):Nat:=Su (Nat.max e.a f.a) (Nat.max e.b f.b)
def iM (st:List El)(ms:List (Nat×Nat))(M:Nat)(e f:El):Option (Nat×Nat):=
 bif Dm e f then some (0,0)else
  match scan st ms (Nat.lor (Nat.shiftLeft e.t (DT e f-Su e.a e.b)) (Nat.shiftLeft f.t (DT e f-Su f.a f.b))) (e.h+f.h) 0 with
  |(S,H,R)=>bif Nat.beq (Nat.lor S M) M then some (H,R)else none
def iL (st:List El)(ms:List (Nat×Nat))(M:Nat)(e:El):List El->Nat->Nat->Option (Nat×Nat)
 |[],H,R=>some (H,R)
 |f::l,H,R=>match iM st ms M e f with
  |none=>none
  |some (H',R')=>iL st ms M e l (Nat.max H H') (Nat.lor R R')
def Dy (st:List El)(ms:List (Nat×Nat))(M:Nat):List El->Nat->Nat->Option (Nat×Nat)
 |[],H,R=>some (H,R)
 |e::l,H,R=>match iL st ms M e (e::l) H R with
  |none=>none
  |some (H',R')=>Dy st ms M l H' R'
def W4:List (Nat×Nat)->Nat
 |[]=>0
 |(a,b)::ms=>Nat.lor (Nat.shiftLeft 1 (Su a b)) (W4 ms)
def kids (H R:Nat):List (Nat×Nat)->List El
 |[]=>[]
 |(a,b)::ms=>bif Nat.testBit R (Su a b)then⟨a,b,Nat.land R (W4 ms),H⟩::kids H R ms else kids H R ms
def Dz {α:Type}(f:α->Bool):List α->Bool
 |[]=>true
 |x::l=>bif f x then Dz f l else false
def oe (ms:List (Nat×Nat))(M hm:Nat):Nat->List El->Bool
 |0,_=>false
 |n+1,st=>match Dy st ms M st 0 0 with
  |none=>false
  |some (H,R)=>Nat.ble H hm&&Dz (fun e=>oe ms M hm n (st++[e])) (kids H R ms)
theorem jY {b:Type}{f:b->Bool}:∀{l:List b},Dz f l=true->∀x∈l,f x=true
 |[],_,x,h=>by cases h
 |y::l,h,x,hx=>by
  unfold Dz at h;cases a:f y with
  |false=>rw[a]at h;cases h
  |true=>
   rw[a]at h;rcases Zj.1 hx with rfl|hx
   ·exact a
   ·exact jY h x hx
theorem ub (x y n:Nat):Nat.testBit (Nat.lor x y) n=(Nat.testBit x n||Nat.testBit y n):=Nat.testBit_or x y n
theorem v7 (x y n:Nat):Nat.testBit (Nat.land x y) n=(Nat.testBit x n&&Nat.testBit y n):=Nat.testBit_and x y n
theorem ua (x d n:Nat):Nat.testBit (Nat.shiftLeft x d) (n+d)=Nat.testBit x n:=by simp_all
theorem GO (n:Nat):Nat.testBit (Nat.shiftLeft 1 n) n=true:=by simp_all
def Sb (x y:Nat):Prop:=∀n,Nat.testBit x n=true->Nat.testBit y n=true
theorem Sb.refl (x:Nat):Sb x x:=fun _ h=>h
theorem Sb.trans {x y z:Nat}(h:Sb x y)(k:Sb y z):Sb x z:=fun n a=>k n (h n a)
theorem yr (x y:Nat):Sb x (Nat.lor x y):=fun n h=>by rw[ub,h];rfl
theorem Bf (x y:Nat):Sb y (Nat.lor x y):=fun n h=>by grind [ub]
theorem Jj {S M:Nat}(h:Nat.beq (Nat.lor S M) M=true):Sb S M:=by grind [yr,Zl]
theorem Nn:∀{ms:List (Nat×Nat)} {n:Nat},Nat.testBit (W4 ms) n=true↔∃p∈ms,Su p.1 p.2=n
 |[],n=>by simp[W4]
 |(a,b)::ms,n=>by
  unfold W4;rw[ub,Bool.or_eq_true,Nn (ms:=ms)];have c:Nat.testBit (Nat.shiftLeft 1 (Su a b)) n=true↔Su a b=n:=by
   show Nat.testBit (1<<<Su a b) n=true↔_
   grind [Nat.testBit_one_eq_true_iff_self_eq_zero]
  simp_all
def uP (st:List El)(a b S:Nat):Nat:=match UB st a b with
 |none=>S
 |some e=>Nat.lor S (Nat.shiftLeft e.t (Su a b-Su e.a e.b))
def kz (st:List El):List (Nat×Nat)->Nat->List (Nat×Nat)
 |[],_=>[]
 |(a,b)::ms,S=>bif Nat.testBit S (Su a b)then(a,b)::kz st ms (uP st a b S)else kz st ms S
def hE (st:List El)(a b:Nat):Nat:=match UB st a b with
 |none=>0
 |some e=>e.h
def yg (st:List El):List (Nat×Nat)->Nat
 |[]=>0
 |(a,b)::l=>hE st a b+yg st l
theorem G5 (c:List El)(a b S:Nat):Sb S (uP c a b S):=by
 unfold uP;split
 ·exact .refl _
 ·exact yr _ _
theorem Ns (c:List El):∀(ms:List (Nat×Nat)) (S H R:Nat),∃g f,scan c ms S H R=(g,H+yg c (kz c ms S),f)/\Sb S g/\Sb R f/\(∀p∈kz c ms S,Sb (uP c p.1 p.2 0) g)/\∀p∈kz c ms S,UB c p.1 p.2=none->Nat.testBit f (Su p.1 p.2)=true
 |[],S,H,R=>⟨S,R,rfl,.refl _,.refl _,(fun _ h=>by cases h),(fun _ h=>by cases h)⟩
 |(a,b)::ms,S,H,R=>by
  unfold scan kz;cases u:Nat.testBit S (Su a b)with
  |false=>
   simp only[cond_false];exact Ns c ms S H R
  |true=>
   simp only[cond_true];cases i:UB c a b with
   |none=>
    obtain⟨g,f,r,k,l,m,q⟩:=Ns c ms S H (Nat.lor R (Nat.shiftLeft 1 (Su a b)));have o:uP c a b S=S:=by unfold uP;rw[i]
    have s:hE c a b=0:=by unfold hE;rw[i]
    rw[o];refine⟨g,f,by grind [yg],k,(yr _ _).trans l,fun p d=> ?_,fun p d j=> ?_⟩
    ·rcases Zj.1 d with rfl|d
     ·unfold uP;rw[i];intro n h;simp at h
     ·exact m p d
    ·rcases Zj.1 d with rfl|d
     ·exact l _ (Bf _ _ _ (GO _))
     ·exact q p d j
   |some e=>
    obtain⟨g,f,r,k,l,m,q⟩:=Ns c ms (Nat.lor S (Nat.shiftLeft e.t (Su a b-Su e.a e.b))) (H+e.h) R;have o:uP c a b S=Nat.lor S (Nat.shiftLeft e.t (Su a b-Su e.a e.b)):=by unfold uP;rw[i]
    have s:hE c a b=e.h:=by unfold hE;rw[i]
    rw[o];refine⟨g,f,by grind [yg],(yr _ _).trans k,l,fun p d=> ?_,fun p d j=> ?_⟩
    ·rcases Zj.1 d with rfl|d
     ·unfold uP;rw[i];intro n h;refine k n (Bf _ _ n ?_);simpa using h
     ·exact m p d
    grind
theorem Nk (c:List El):∀(ms:List (Nat×Nat)) (S:Nat),(kz c ms S).Sublist ms
 |[],_=>.slnil
 |(a,b)::ms,S=>by
  unfold kz;cases Nat.testBit S (Su a b)with
  |false=>exact(Nk c ms S).cons _
  |true=>exact(Nk c ms _).cons_cons _
theorem fM (c:List El):∀(ms:List (Nat×Nat)) (S:Nat) (p:Nat×Nat),p∈ms->Nat.testBit S (Su p.1 p.2)=true->p∈kz c ms S
 |[],_,p,h,_=>by cases h
 |(a,b)::ms,S,p,hp,hb=>by
  unfold kz;rcases Zj.1 hp with rfl|hp
  ·grind
  ·cases d:Nat.testBit S (Su a b)with
   |false=>exact fM c ms S p hp hb
   |true=>exact Zb _ (fM c ms _ p hp (G5 c a b S _ hb))
theorem eY:∀{c:List El} {a b:Nat} {e:El},UB c a b=some e->e∈c/\e.a<=a/\e.b<=b
 |[],_,_,_,h=>by cases h
 |f::c,a,b,e,h=>by
  unfold UB at h;cases d:(Nat.ble f.a a&&Nat.ble f.b b)with
  |false=>
   rw[d,cond_false]at h;obtain⟨g,i⟩:=eY h
   grind
  |true=>
   simp_all
theorem aF:∀(c:List El) (e:El) (a b:Nat),UB (c++[e]) a b=match UB c a b with
  |some f=>some f
  |none=>bif Nat.ble e.a a&&Nat.ble e.b b then some e else none
 |[],e,a,b=>rfl
 |f::c,e,a,b=>by
  simp only[ZU,UB];cases d:(Nat.ble f.a a&&Nat.ble f.b b)with
  |false=>simp only[cond_false];exact aF c e a b
  |true=>simp only[cond_true]
theorem jg {H R:Nat}:∀{ms:List (Nat×Nat)} {e f:List (Nat×Nat)} {a b:Nat},ms=e++(a,b)::f->Nat.testBit R (Su a b)=true->⟨a,b,Nat.land R (W4 f),H⟩∈kids H R ms
 |[],e,f,a,b,h,_=>by cases e<;>cases h
 |(c,d)::ms,e,f,a,b,h,hb=>by
  unfold kids;cases e with
  |nil=>
   grind
  |cons q e=>
   simp only[ZU,ZH]at h;have:=jg (H:=H) (R:=R) h.2 hb
   grind
def Q1 (st:List El)(ms:List (Nat×Nat))(M H R:Nat)(e f:El):Prop:=∃H1 R1,iM st ms M e f=some (H1,R1)/\H1<=H/\Sb R1 R
theorem Q1.mono {i:List El}{ms:List (Nat×Nat)}{M H R d g:Nat}{e f:El}(h:Q1 i ms M H R e f)(l:H<=d)(m:Sb R g):Q1 i ms M d g e f:=by
 obtain⟨j,k,a,b,c⟩:=h;exact⟨j,k,a,Zx b l,c.trans m⟩
theorem eH {j:List El}{ms:List (Nat×Nat)}{M:Nat}{e:El}:∀{l:List El} {H R a b:Nat},iL j ms M e l H R=some (a,b)->H<=a/\Sb R b/\∀f∈l,Q1 j ms M a b e f
 |[],H,R,a,b,h=>by
  obtain⟨rfl,rfl⟩:=h;exact⟨Ze _,.refl _,(fun _ h=>by cases h)⟩
 |f::l,H,R,a,b,h=>by
  unfold iL at h;cases i:iM j ms M e f with
  |none=>rw[i]at h;cases h
  |some q=>
   obtain⟨c,m⟩:=q;rw[i]at h;obtain⟨o,k,n⟩:=eH h;have p:H<=Nat.max H c:=Nat.le_max_left ..;have m2:c<=Nat.max H c:=Nat.le_max_right ..;refine⟨by omega,(yr _ _).trans k,fun g d=> ?_⟩;rcases Zj.1 d with rfl|d
   ·exact⟨c,m,i,by omega,(Bf _ _).trans k⟩
   ·exact n g d
theorem np {c:List El}{ms:List (Nat×Nat)}{M:Nat}:∀{l:List El} {H R a b:Nat},Dy c ms M l H R=some (a,b)->H<=a/\Sb R b/\∀e∈l,∀f∈l,Q1 c ms M a b e f\/Q1 c ms M a b f e
 |[],H,R,a,b,h=>by
  obtain⟨rfl,rfl⟩:=h;exact⟨Ze _,.refl _,(fun _ h=>by cases h)⟩
 |e::l,H,R,a,b,h=>by
  unfold Dy at h;cases g:iL c ms M e (e::l) H R with
  |none=>rw[g]at h;cases h
  |some q=>
   obtain⟨p,r⟩:=q;rw[g]at h;obtain⟨s,n,i⟩:=eH g;obtain⟨j,d,o⟩:=np h;refine⟨by omega,n.trans d,fun x k y m=> ?_⟩;rcases Zj.1 k with rfl|hx'
   ·exact .inl ((i y m).mono j d)
   ·rcases Zj.1 m with rfl|hy'
    ·exact .inr ((i x k).mono j d)
    ·exact o x hx' y hy'
end Go.Num
namespace Go.Proofs.YtidginchkjhobaaGreat
open Go.Ev Go.Num
abbrev Vi (a b:Nat):P':=[a,b,0,0,0,0,0,0]
abbrev m2 (p:Nat×Nat):P':=Vi p.1 p.2
theorem cj (a b c d:Nat):Wn (Vi a b) (Vi c d)=(Nat.ble a c&&Nat.ble b d):=by
 have key:∀x y:Nat,decide (x<=y)=Nat.ble x y:=fun x y=>by
  by_cases h:x<=y
  ·rw[decide_eq_true h];exact(Nat.ble_eq_true_of_le h).symm
  ·rw[decide_eq_false h];cases e:Nat.ble x y with
   |false=>rfl
   |true=>exact absurd (Nat.le_of_ble_eq_true e) h
 have e1:=key a c;have e2:=key b d;simp only[Wn,e1,e2,Ze,decide_true,Bool.and_true]
theorem Kj {a b c d:Nat}(h:Vi a b=Vi c d):a=c/\b=d:=by
 simp only[Vi,ZH,and_true]at h;exact h
theorem bL (a b c d:Nat):XQ (Vi a b) (Vi c d)=Vi (a-c) (b-d):=rfl
theorem bM (a b c d:Nat):Xg (Vi a b) (Vi c d)=Vi (a+c) (b+d):=rfl
theorem aw {a b:Nat}(d:a<=65535)(f:b<=65535):XD (Vi a b):=⟨rfl,fun e c=>by
 simp only[Zj,ZV,or_false]at c;omega⟩
structure Q2 (o:M')(ms:List (Nat×Nat))(e:El)(f:Z'):Prop where
 fe:∃A,Fe o A 1 (Vi e.a e.b) f/\2*A<=32^e.h
 tl:∀u∈f,u.2≠Vi e.a e.b->∃c d,u.2=Vi c d/\c<16/\d<16/\Nat.testBit e.t (Su c d)=true
 Iq:e.a<16
 Io:e.b<16
 ln:f.length<=100
 Ko:∀u∈f,∃p∈ms,u.2=m2 p
theorem Q2.ld {o:M'}{ms:List (Nat×Nat)}{e:El}{f:Z'}(h:Q2 o ms e f):XR o f=some (1,Vi e.a e.b):=by
 obtain⟨A,c,d⟩:=h.fe;exact c.ld
theorem Q2.pl {o:M'}{ms:List (Nat×Nat)}{e:El}{f:Z'}(h:Q2 o ms e f):Pl f:=by
 obtain⟨A,a,b⟩:=h.fe;exact a.pl
structure Fit (o:M')(ms:List (Nat×Nat))(st:List El)(fs:S'):Prop where
 all:∀f∈fs,∃e∈st,Q2 o ms e f
 no:∀a b,UB st a b=none->WE o (Vi a b) fs 0=none
 yes:∀a b e,UB st a b=some e->∃(i:Nat) (f:Z'),WE o (Vi a b) fs 0=some i/\fs[i]? =some f/\Q2 o ms e f
theorem Fit.nil (o:M')(ms:List (Nat×Nat)):Fit o ms [] []:=⟨(fun _ h=>by cases h),fun _ _ _=>rfl,(fun _ _ _ h=>by cases h)⟩
theorem Qt {o:M'}{m:P'}{r:Z'}{s:Qm}(d:XR o r=some s):∀(a:S') (i:Nat),WE o m (a++[r]) i=match WE o m a i with
  |some j=>some j
  |none=>if Wn s.2 m=true then some (i+a.length)else none
 |[],i=>by
  simp only[ZF,WE,d,Zr,Z0]
 |f::a,i=>by
  have b:=Qt (m:=m) d a (i+1);have e:i+1+a.length=i+(f::a).length:=by simp only[Zi];omega
  rw[e]at b;simp only[ZU];unfold WE;cases XR o f with
  |none=>exact b
  |some q=>
   by_cases c:Wn q.2 m=true
   ·simp only[c,if_true]
   ·simp only[c,Zy,if_false];exact b
theorem dQ {o:M'}{m:P'}:∀{a:S'} {i j:Nat},WE o m a i=some j->i<=j/\j<i+a.length
 |[],_,_,h=>by cases h
 |f::a,i,j,h=>by
  unfold WE at h;simp only[Zi];cases b:XR o f with
  |none=>
   rw[b]at h;have:=dQ h;omega
  |some s=>
   rw[b]at h;simp only at h;split at h
   ·cases h;omega
   ·have:=dQ h;omega
theorem mP:∀{d:List El} {a b:Nat},UB d a b=none->∀e∈d,(Nat.ble e.a a&&Nat.ble e.b b)=false
 |[],_,_,_,e,h=>by cases h
 |f::d,a,b,h,e,he=>by
  unfold UB at h;cases c:(Nat.ble f.a a&&Nat.ble f.b b)with
  |true=>rw[c]at h;cases h
  |false=>
   rw[c,cond_false]at h;rcases Zj.1 he with rfl|he
   ·exact c
   ·exact mP h e he
theorem Fit.snoc {o:M'}{ms:List (Nat×Nat)}{n:List El}{p:S'}(h:Fit o ms n p){e:El}{r:Z'}(k:Q2 o ms e r):Fit o ms (n++[e]) (p++[r]):=by
 refine⟨fun f g=> ?_,fun a b c=> ?_,fun a b j c=> ?_⟩
 ·rcases ZW.1 g with g|g
  ·obtain⟨j,q,l⟩:=h.all f g;exact⟨j,List.mem_append_left _ q,l⟩
  ·rw[ZS.1 g];exact⟨e,List.mem_append_right _ (ZS.2 rfl),k⟩
 ·rw[aF]at c;rw[Qt k.ld];cases d:UB n a b with
  |some j=>rw[d]at c;cases c
  |none=>
   rw[d]at c;simp only at c;rw[h.no a b d];simp only[cj];cases m:(Nat.ble e.a a&&Nat.ble e.b b)with
   |true=>rw[m]at c;cases c
   |false=>simp
 ·rw[aF]at c;rw[Qt k.ld];cases d:UB n a b with
  |some e1=>
   rw[d]at c;cases c;obtain⟨i,f,q,l,s⟩:=h.yes a b j d;refine⟨i,f,by rw[q],?_,s⟩;rw[ZA (Zf.1 l).1];exact l
  |none=>
   rw[d]at c;simp only at c;rw[h.no a b d];simp only[cj];cases m:(Nat.ble e.a a&&Nat.ble e.b b)with
   |false=>rw[m]at c;cases c
   |true=>
    rw[m]at c;cases c;exact⟨p.length,r,by simp,by simp,k⟩
theorem Fit.dup {o:M'}{ms:List (Nat×Nat)}{g:List El}{j:S'}(h:Fit o ms g j){e:El}{r:Z'}(k:Q2 o ms e r)(m:e∈g):Fit o ms g (j++[r]):=by
 refine⟨fun f c=> ?_,fun a b d=> ?_,fun a b n d=> ?_⟩
 ·rcases ZW.1 c with c|c
  ·exact h.all f c
  ·rw[ZS.1 c];exact⟨e,m,k⟩
 ·rw[Qt k.ld,h.no a b d];simp only[cj,mP d e m,Zy,if_false]
 ·obtain⟨i,f,p,l,q⟩:=h.yes a b n d;refine⟨i,f,by rw[Qt k.ld,p],?_,q⟩;rw[ZA (Zf.1 l).1];exact l
structure vT (o:M')(ms:List (Nat×Nat)):Prop where
 dc:DP o (ms.map m2)
 lt:∀p∈ms,p.1<16/\p.2<16
def Gu (st:List El):P'->Nat
 |a::b::_=>hE st a b
 |_=>0
theorem nc (c:List El):∀(l:List (Nat×Nat)),V4 (Gu c) (l.map m2)=yg c l
 |[]=>rfl
 |(a,b)::l=>by
  simp only[Zt,V4,yg,nc c l];rfl
theorem rg_of {o:M'}{l:List (Nat×Nat)}{g:List El}{U:S'}(x:vT o l)(F:Fit o l g U){O:Nat}(J:Sb O (W4 l)):∀(ms w:List (Nat×Nat)),l=w++ms->∀(S:Nat),(∀p∈kz g ms S,Sb (uP g p.1 p.2 0) O)->Rg o U (Gu g) ((kz g ms S).map m2)
 |[],_,_,_,_=>⟨.nil,(fun _ h=>by cases h),(fun _ h=>by cases h)⟩
 |(a,b)::ms,w,C,S,hS=>by
  have D:l=(w++[(a,b)])++ms:=by rw[C];simp
  have B:DP o (((kz g ((a,b)::ms) S)).map m2):=by
   have:=x.dc;rw[C,List.map_append]at this;exact((List.pairwise_append.1 this).2.1).sublist ((Nk g _ S).map _)
  cases W:Nat.testBit S (Su a b)with
  |false=>
   have e:kz g ((a,b)::ms) S=kz g ms S:=by
    conv=>lhs;unfold kz
    rw[W];rfl
   rw[e]at hS⊢;exact rg_of x F J ms _ D S hS
  |true=>
   have e:kz g ((a,b)::ms) S=(a,b)::kz g ms (uP g a b S):=by
    conv=>lhs;unfold kz
    rw[W];rfl
   rw[e]at hS B⊢;have ih:=rg_of x F J ms _ D (uP g a b S) fun p j=>hS p (Zb _ j)
   have K:(a,b)∈l:=by rw[C];simp
   obtain⟨V,Y⟩:=x.lt _ K;refine⟨B,fun n G=> ?_,fun δ s=> ?_⟩
   ·rw[Zt]at G;rcases Zj.1 G with rfl|G
    ·exact aw (by omega) (by omega)
    ·exact ih.ok n G
   ·rw[Zt]at s;rcases Zj.1 s with rfl|s
    ·cases E:UB g a b with
     |none=>exact .inl (F.no a b E)
     |some e=>
      right;obtain⟨i,f,f1,f2,T⟩:=F.yes a b e E;obtain⟨A,N,A2⟩:=T.fe;obtain⟨-,la,lb⟩:=eY E;refine⟨i,f,1,Vi e.a e.b,A,f1,f2,N,?_,?_,fun u H r=> ?_⟩
      ·show 2*A<=32^hE g a b;unfold hE;rw[E];exact A2
      ·rw[cj,Zs];exact⟨Nat.ble_eq_true_of_le la,Nat.ble_eq_true_of_le lb⟩
      ·obtain⟨c,d,R,Z,a0,y⟩:=T.tl u H r;have P:Xg (XQ (m2 (a,b)) (Vi e.a e.b)) u.2=Vi (a-e.a+c) (b-e.b+d):=by rw[R];rfl
       have v:WO o (Vi (a-e.a+c) (b-e.b+d)) (Vi a b):=by
        have:=(N.lt H r).add (k:=XQ (Vi a b) (Vi e.a e.b)) rfl (by rw[R];rfl) rfl;rw[show Xg (XQ (Vi a b) (Vi e.a e.b)) (Vi e.a e.b)=Vi a b by rw[bL,bM,YZ la,YZ lb]]at this;rw[<-P];exact this
       have t:Su (a-e.a+c) (b-e.b+d)=Su c d+(Su a b-Su e.a e.b):=by
        unfold Su;omega
       have z:∀X,Nat.testBit (uP g a b X) (Su (a-e.a+c) (b-e.b+d))=true:=fun X=>by
        unfold uP;rw[E,t];exact Bf _ _ _ (by rw[ua];exact y)
       have L:=J _ (hS (a,b) (Zc ..) _ (z 0));obtain⟨p,j,Q⟩:=Nn.1 L;obtain⟨a1,a2⟩:=x.lt p j;have q:p=(a-e.a+c,b-e.b+d):=by
        unfold Su at Q;apply Prod.ext<;>simp only<;>omega
       have M:p∈ms:=by
        rw[C]at j;have hd:=x.dc;rw[C,List.map_append,Zt]at hd;have I:=(List.pairwise_append.1 hd).2.2;rcases ZW.1 j with j|j
        ·exfalso;have:=I (m2 p) (ZM.2 ⟨p,j,rfl⟩) (m2 (a,b)) (Zc ..);rw[q]at this;exact this.asymm rfl rfl v
        ·rcases Zj.1 j with j|j
         ·exfalso;rw[j]at q;have :a=a-e.a+c/\b=b-e.b+d:=by
           have:=congrArg Prod.fst q;have:=congrArg Prod.snd q;simp only at *;constructor<;>assumption
          rw[<-this.1,<-this.2]at v;exact WO.zD v
         ·exact j
       rw[P,Zt];refine Zb _ (ZM.2 ⟨p,fM g ms _ p M ?_,by rw[q]⟩);rw[Q];exact z S
    ·rcases ih.dv δ s with h1|⟨i,f,lc,m,A,h1,I,h3,h4,h5,h6⟩
     ·exact .inl h1
     ·exact .inr ⟨i,f,lc,m,A,h1,I,h3,h4,h5,fun u H r=>by rw[Zt];exact Zb _ (h6 u H r)⟩
theorem wL {o:M'}{ms:List (Nat×Nat)}{m:List El}{w:S'}(B:vT o ms)(D:Fit o ms m w){e f:El}{H R:Nat}(k:iM m ms (W4 ms) e f=some (H,R))(x:Dm e f=false)(S:e.a<16)(T:e.b<16)(U:f.a<16)(V:f.b<16):
  ∃l,Rg o w (Gu m) l/\(∀q∈l,∃p∈ms,q=m2 p)/\l.length<=ms.length/\e.h+f.h+V4 (Gu m) l=H/\(∀c d,c<16->d<16->Nat.testBit e.t (Su c d)=true->Vi (max e.a f.a-e.a+c) (max e.b f.b-e.b+d)∈l)/\(∀c d,c<16->d<16->Nat.testBit f.t (Su c d)=true->Vi (max e.a f.a-f.a+c) (max e.b f.b-f.b+d)∈l)/\
   ∀q∈l,WE o q w 0=none->∃p∈ms,q=m2 p/\Nat.testBit R (Su p.1 p.2)=true:=by
 unfold iM at k;rw[x,cond_false]at k;obtain⟨G,Q,r,s,W,K,L⟩:=Ns m ms (Nat.lor (Nat.shiftLeft e.t (DT e f-Su e.a e.b)) (Nat.shiftLeft f.t (DT e f-Su f.a f.b))) (e.h+f.h) 0;generalize u:Nat.lor (Nat.shiftLeft e.t (DT e f-Su e.a e.b)) (Nat.shiftLeft f.t (DT e f-Su f.a f.b))=S0 at *;rw[r]at k;simp only at k;cases z:Nat.beq (Nat.lor G (W4 ms)) (W4 ms)with
 |false=>rw[z]at k;cases k
 |true=>
  rw[z,cond_true,Za,Zp]at k;obtain⟨rfl,rfl⟩:=k;have E:=Jj z;have v:∀c d,c<32->d<32->Nat.testBit S0 (Su c d)=true->Vi c d∈(kz m ms S0).map m2:=fun c d x F j=>by
   obtain⟨p,k,C⟩:=Nn.1 (E _ (s _ j));obtain⟨O,P⟩:=B.lt p k;have y:p=(c,d):=by
    unfold Su at C;apply Prod.ext<;>simp only<;>omega
   exact ZM.2 ⟨p,fM m ms S0 p k (by rw[C];exact j),by rw[y]⟩
  refine⟨(kz m ms S0).map m2,rg_of B D E ms [] rfl S0 K,fun q n=>by
   obtain⟨p,k,rfl⟩:=ZM.1 n;exact⟨p,(Nk m ms S0).subset k,rfl⟩,?_,by rw[nc],fun c d x F j=> ?_,fun c d x F j=> ?_,fun q n N=> ?_⟩
  ·rw[ZP];exact(Nk m ms S0).length_le
  ·refine v _ _ (by omega) (by omega) ?_;rw[<-u];refine yr _ _ _ ?_;have :Su (max e.a f.a-e.a+c) (max e.b f.b-e.b+d)=Su c d+(DT e f-Su e.a e.b):=by
    unfold DT Su;have r:Nat.max e.a f.a=max e.a f.a:=rfl;have s:Nat.max e.b f.b=max e.b f.b:=rfl;rw[r,s];omega
   rw[this,ua];exact j
  ·refine v _ _ (by omega) (by omega) ?_;rw[<-u];refine Bf _ _ _ ?_;have :Su (max e.a f.a-f.a+c) (max e.b f.b-f.b+d)=Su c d+(DT e f-Su f.a f.b):=by
    unfold DT Su;have r:Nat.max e.a f.a=max e.a f.a:=rfl;have s:Nat.max e.b f.b=max e.b f.b:=rfl;rw[r,s];omega
   rw[this,ua];exact j
  ·obtain⟨p,k,rfl⟩:=ZM.1 n;have A:=(Nk m ms S0).subset k;refine⟨p,A,rfl,L p k ?_⟩;cases M:UB m p.1 p.2 with
   |none=>rfl
   |some I=>
    obtain⟨i,g,J,-⟩:=D.yes p.1 p.2 I M;have :WE o (m2 p) w 0=some i:=J;rw[N]at this;cases this
theorem fU {D D' a b c:Nat}{f:Z'}(j:Q8 f)(i:VQ D' b f):∀{d acc:Z'},Q8 d->Q8 acc->VQ D a d->VQ (D*D') c acc->VQ (D*D') (c+d.length*(a*b)) (WY acc d f)
 |[],acc,_,_,_,h=>by
  unfold WY;simp only[Zr,YJ,Z0];exact h
 |t::d,acc,ht,ha,hta,h=>by
  unfold WY;have l:VQ (D*D') (a*b) (XG t.1 t.2 f):=fun x g=>by
   obtain⟨u,n,-,e⟩:=Vo g;rw[e];exact(hta t (Zc ..)).mul (i u n)
  have k:=V9 (z:=t.1) ht.head j;have m:=VQ.Wh ha k h l;have:=fU j i ht.tail (RQ ha k) (fun x g=>hta x (Zb _ g)) m;refine this.mono ?_;simp only[Zi,Nat.succ_mul];omega
theorem uT {D D' a b c C:Nat}{f:Z'}(n:Q8 f)(m:VQ D' b f)(g:∀{j:Nat} {l:Z'},j<=C->VQ (D*D') j l->Sz l):∀{d acc:Z'},Q8 d->Q8 acc->VQ D a d->VQ (D*D') c acc->c+d.length*(a*b)<=C->tK f acc d
 |[],_,_,_,_,_,_=>trivial
 |t::d,acc,ht,ha,hta,h,hc=>by
  simp only[Zi,Nat.succ_mul]at hc;have k:VQ (D*D') (a*b) (XG t.1 t.2 f):=fun x i=>by
   obtain⟨u,p,-,e⟩:=Vo i;rw[e];exact(hta t (Zc ..)).mul (m u p)
  have o:=V9 (z:=t.1) ht.head n;exact⟨g (by omega) h,g (by omega) k,uT n m g ht.tail (RQ ha o) (fun x i=>hta x (Zb _ i)) (VQ.Wh ha o h k) (by omega)⟩
def fy:Z'->S'->S'->Z'
 |x,q::qs,f::fs=>match q with
  |[]=>fy x qs fs
  |t::ts=>fy (Wh x (Wu (WY [] (t::ts) f))) qs fs
 |x,_,_=>x
theorem iG {q f:Z'}(b:Pl q)(a:Pl f):Pl (WY [] q f):=⟨gl b.q8 a.q8 (fun _ h=>by cases h) b.SQ.nz a.dc .nil,nY b.q8 a.q8 (fun _ h=>by cases h)⟩
theorem oc {q f:Z'}(c:Pl q)(b:Pl f)(a:P'->Rat):X2 (WY [] q f) a=X2 q fun m=>X2 f fun k=>a (Xg m k):=by
 rw[bB a c.q8 b.q8 (fun _ h=>by cases h)];simp only[X2];grind
theorem nK:∀{d a:S'} {x:Z'},Pl x->(∀q∈d,Pl q)->(∀f∈a,Pl f)->Pl (fy x d a)
 |[],_,_,h,_,_=>h
 |_::_,[],_,h,_,_=>h
 |q::d,f::a,x,h,i,g=>by
  have c:=fun p e=>i p (Zb _ e)
  have b:=fun p e=>g p (Zb _ e)
  cases q with
  |nil=>show Pl (fy x d a);exact nK h c b
  |cons t j=>show Pl (fy (Wh x (Wu (WY [] (t::j) f))) d a);exact nK (h.add (VH (iG (i _ (Zc ..)) (g _ (Zc ..))))) c b
theorem nJ (a:P'->Rat):∀{c b:S'} {x:Z'},Pl x->(∀q∈c,Pl q)->(∀f∈b,Pl f)->X2 (fy x c b) a=X2 x a-V6 c b a
 |[],_,_,_,_,_=>by simp only[fy,V6];grind
 |_::_,[],_,_,_,_=>by simp only[fy,V6];grind
 |q::c,f::b,x,h,j,i=>by
  have e:=fun p g=>j p (Zb _ g)
  have d:=fun p g=>i p (Zb _ g)
  cases q with
  |nil=>
   show X2 (fy x c b) a=_;rw[nJ a h e d];simp only[V6,X2];grind
  |cons t n=>
   have k:=j _ (Zc ..);have l:=i _ (Zc ..);have m:=VH (iG k l);show X2 (fy (Wh x (Wu (WY [] (t::n) f))) c b) a=_;rw[nJ a (h.add m) e d,VC a _ _ _ (Ze _) h.q8 m.q8,RR,oc k l];simp only[V6];grind
theorem nG {C a b:Nat}{H h:Nat}(c:2*a<=32^H)(d:2*b<=32^h)(f:C<=2*a*b):2*C<=32^(H+h):=by
 rw[Yu];have:=ZT c d;have e:2*a*(2*b)=2*(2*a*b):=by rw[Nat.mul_left_comm]
 omega
theorem ik {B:Xs}(F:Std B){hq hf n1 n2:Nat}(d:n2<1000)(A:n1*n2<400000)(P:n1<30000):∀{s k:S'} {O ps:N'} {X:Z'} {x:PL} {D C H:Nat},VS O s->VS ps k->s.length=k.length->PQ x X->Pl X->0<D->D<=C->2*C<=32^H->VQ D C X->
  (∀Q∈s,Pl Q/\Q.length<=n1/\∃g p,0<g/\g<=p/\2*p<=32^hq/\VQ g p Q)->(∀f∈k,Pl f/\f.length<=n2/\∃g p,0<g/\g<=p/\2*p<=32^hf/\VQ g p f)->
  (∀(i:Nat) (Q f:Z'),s[i]? =some Q->k[i]? =some f->∀t∈Q,∀u∈f,XD (Xg t.2 u.2))->H+k.length*(hq+hf+3)<=1200000000000->X.length+k.length*(n1*n2)<900000->
  ∃y,(XS B fun E _=>QQ E x O ps y)/\PQ y (fy X s k)
 |[],[],_,_,X,x,D,C,H,.nil,.nil,_,px,_,_,_,_,_,_,_,_,_,_=>⟨x,XS.of fun _ _=>.nil,px⟩
 |[],_::_,_,_,_,_,_,_,_,_,_,hl,_,_,_,_,_,_,_,_,_,_,_=>by simp at hl
 |_::_,[],_,_,_,_,_,_,_,_,_,hl,_,_,_,_,_,_,_,_,_,_,_=>by simp at hl
 |Q::s,f::k,_,_,X,x,D,C,H,.cons (x:=lq) pq pqs,.cons (x:=pf) ppf pfs,hl,px,plx,hD,hDC,hH,hfr,hQ,hF,M,hsz,hlen=>by
  simp only[Zi,Nat.succ_mul,Nat.add_right_cancel_iff]at hl hsz hlen;have J:=fun q hq=>hQ q (Zb _ hq)
  have G:=fun q hq=>hF q (Zb _ hq)
  have n:∀(i:Nat) (Q f:Z'),s[i]? =some Q->k[i]? =some f->∀t∈Q,∀u∈f,XD (Xg t.2 u.2):=fun i Q f h1 h2=>M (i+1) Q f (by rw[Z2];exact h1) (by rw[Z2];exact h2)
  cases w:Q with
  |nil=>
   rw[w]at pq;obtain⟨es,sq,z⟩:=pq;cases z;obtain⟨y,k1,T⟩:=ik F d A P pqs pfs hl px plx hD hDC hH hfr J G n (by omega) (by omega);exact⟨y,k1.mono fun E K e=>.skip sq e,T⟩
  |cons t ts=>
   obtain⟨U,l1,r,a,d1,d2,d3,Y⟩:=hQ Q (Zc ..);obtain⟨p2,l2,j,b,e1,e2,e3,Z⟩:=hF f (Zc ..);have N:0<Q.length:=by rw[w];simp
   have v:r*j<=Q.length*(a*b):=Zx (ZT d2 e2) (Nat.le_mul_of_pos_left _ N);have I:2*(Q.length*(a*b))<=32^(hq+hf+3):=by
    have V:Q.length<=32^3:=by
     have :(32:Nat)^3=32768:=by decide
     omega
    have W:2*(a*b)<=32^(hq+hf):=by
     have:=nG d3 e3 (Ze _);have e:2*a*b=2*(a*b):=Z3 ..;omega
    rw[Yu];have:=ZT W V;have e:2*(a*b)*Q.length=2*(Q.length*(a*b)):=by rw[Z3,ZR (a*b)]
    omega
   have m:0<r*j:=Yi d1 e1;have S:∀{c':Nat} {l:Z'},c'<=Q.length*(a*b)->VQ (r*j) c' l->Sz l:=fun h1 h2=>(h2.mono h1).NU m v I (by omega)
   have o:Q8 ([]:Z'):=fun _ h=>by cases h
   have fm:=fU p2.q8 Z U.q8 o Y (c:=0) (D':=j) (acc:=[]) (fun _ h=>by cases h);rw[Yg]at fm;have ms:=uT p2.q8 Z S U.q8 o Y (c:=0) (D':=j) (acc:=[]) (fun _ h=>by cases h) (by omega);have a3:=M 0 Q f rfl rfl;have sQ:Sz Q:=Y.NU d1 d2 d3 (by omega);have sf:Sz f:=Z.NU e1 e2 e3 (by omega);have a4:Q.length*f.length<=n1*n2:=ZT l1 l2;obtain⟨rb,b1,b2⟩:=bt F pq ppf sQ sf (fun t ht=>⟨U.SQ.nz t ht,a3 t ht⟩) ms (by omega) (by omega) (by omega);have lm:=rF Q f [];simp only[Zr,Yg]at lm;have sX:Sz X:=hfr.NU hD hDC hH (by omega);obtain⟨R,s1,s2⟩:=SX F px b2 sX (S (Ze _) fm) (by omega) (by omega);have L:=aD F b1 s1 (e:=.Xq) .nil;have pm:=VH (iG U p2);have fx:VQ (D*(r*j)) (2*C*(Q.length*(a*b))) (Wh X (Wu (WY [] Q f))):=by
    have V:VQ (D*(r*j)) (C*(r*j)) X:=hfr.scale _;have W:VQ (D*(r*j)) (Q.length*(a*b)*D) (Wu (WY [] Q f)):=by
     rw[ZR D];exact(fm.scale D).Wu
    refine(VQ.Wh plx.q8 pm.q8 V W).mono ?_;have b1:=Yb C v;have b2:Q.length*(a*b)*D<=C*(Q.length*(a*b)):=by rw[ZR];exact Zn _ hDC
    have b3:2*C*(Q.length*(a*b))=C*(Q.length*(a*b))+C*(Q.length*(a*b)):=by rw[Z3,Nat.two_mul]
    omega
   have a5:=UO _ X (Wu (WY [] Q f)) (Ze _);have ln:(Wu (WY [] Q f)).length=(WY [] Q f).length:=by simp[Wu,X1]
   obtain⟨y,k1,T⟩:=ik F d A P pqs pfs hl ⟨R,.Xn,s2⟩ (plx.add pm) (Yi hD m) (by
     have:=ZT hDC v;have b3:2*C*(Q.length*(a*b))=C*(Q.length*(a*b))+C*(Q.length*(a*b)):=by rw[Z3,Nat.two_mul]
     omega) (nG hH I (Ze _)) fx J G n (by omega) (by omega)
   obtain⟨es,sq,z⟩:=pq;have a0:0<es.length:=by rw[z.length];exact N
   refine⟨y,(k1.and L.Xk).mono fun E K ⟨e0,e1⟩=>.step sq a0 e1 e0,?_⟩;rw[w]at T;exact T
theorem CR {D C:Nat}{c:Rat}(f:Fr D C c)(h0:c≠0)(m:0<D):∃E:Nat,0<E/\E<=C/\Fr E D c⁻¹/\∀x,Fr D C x->Fr E C (c⁻¹*x):=by
 obtain⟨z,b,l⟩:=f;have a:(D:Rat)≠0:=by
  intro h;have :D=0:=by exact_mod_cast h
  omega
 have d:z≠0:=by
  intro h;rw[h]at b;have :c*(D:Rat)=0:=b;exact(Rat.mul_eq_zero.1 this).elim h0 a
 obtain⟨e,e1,e2⟩:=gV z d;have g:c⁻¹*c=1:=Rat.inv_mul_cancel _ h0;have key:∀y:Rat,c⁻¹*y*((z.natAbs:Nat):Rat)=(e:Rat)*(y*(D:Rat)):=fun y=>by
  rw[e1,YM,<-b];have :c⁻¹*y*((e:Rat)*(c*(D:Rat)))=(c⁻¹*c)*((e:Rat)*(y*(D:Rat))):=by grind
  rw[this,g,Rat.one_mul]
 refine⟨z.natAbs,Int.natAbs_pos.2 d,l,⟨e*D,?_,?_⟩,fun x i=> ?_⟩
 ·have:=key 1;rw[Rat.mul_one,Rat.one_mul]at this;rw[this,YM,YV]
 ·rw[Yq,e2,Z4,Z9];exact Ze _
 ·obtain⟨y,j,k⟩:=i;refine⟨e*y,?_,by rw[Yq,e2,Z4];exact k⟩;rw[key,j,YM]
theorem OR (o:M')(z:Rat):∀(a:Z') (b:Qm),V2 o (z*b.1,b.2) (X1 z a)=(z*(V2 o b a).1,(V2 o b a).2)
 |[],_=>rfl
 |t::a,b=>by
  have e:X1 z (t::a)=(z*t.1,t.2)::X1 z a:=rfl;rw[e];unfold V2;simp only;split
  ·exact OR o z a t
  ·exact OR o z a b
theorem OQ (o:M')(z:Rat){f:Z'}{s:Qm}(h:XR o f=some s):XR o (X1 z f)=some (z*s.1,s.2):=by
 cases f with
 |nil=>cases h
 |cons t a=>
  have e:X1 z (t::a)=(z*t.1,t.2)::X1 z a:=rfl;rw[e];simp only[XR,Za]at h⊢;rw[OR,h]
def S5 (o:M')(R:Z'):Z':=match XR o R with
 |none=>R
 |some s=>X1 s.1⁻¹ R
structure Gz (o:M')(fs:S')(c:P'->Nat)(l:J')(H:Nat)(X R:Z')(Qs:S'):Prop where
 pl:Pl R
 mem:∀u∈R,u.2∈l/\WE o u.2 fs 0=none
 eq:∀φ,X2 X φ=X2 R φ+V6 Qs fs φ
 ql:Qs.length=fs.length
 qp:∀Q∈Qs,Pl Q
 up:∀(i:Nat) (Q f:Z'),Qs[i]? =some Q->fs[i]? =some f->∀u∈Q,∃lc m A,Fe o A lc m f/\Xg u.2 m∈l
 sz:∃D C,0<D/\D<=C/\2*C<=32^(H+V4 c l)/\VQ D C R
theorem rk {z:Rat}(b:z≠0){f:Z'}(h:Pl f):Pl (X1 z f):=by
 have e:X1 z f=XG z zM f:=by
  unfold X1 XG;exact List.map_congr_left fun t a=>by rw[Qb (h.q8 t a)]
 rw[e];exact VJ b rfl h
theorem TU {z:Rat}{f:Z'}{x:Qm}(h:x∈X1 z f):∃t∈f,x.2=t.2/\x.1=z*t.1:=by
 unfold X1 at h;obtain⟨t,a,rfl⟩:=ZM.1 h;exact⟨t,a,rfl,rfl⟩
theorem bJ {o:M'}{R:Z'}{D C h:Nat}(r:Pl R)(n:0<D)(a:D<=C)(f:2*C<=32^h)(g:h<=1200000000000)(b:VQ D C R)(w:R.length<50000){s:Qm}(q:XR o R=some s):Fe o C 1 s.2 (X1 s.1⁻¹ R)/\Sq s.1/\Sq s.1⁻¹:=by
 obtain⟨j,B,k,F⟩:=XK r q;obtain⟨E,c,d,v,l⟩:=CR (b s j) k n;have p:s.1⁻¹*s.1=1:=Rat.inv_mul_cancel _ k;have m:VQ E C (X1 s.1⁻¹ R):=fun x A=>by
  obtain⟨t,y,-,e⟩:=TU A;rw[e];exact l _ (b t y)
 have i:∀x:Rat,(1:Rat)⁻¹*x=x:=fun x=>by
  have :(1:Rat)⁻¹=1:=by grind
  rw[this,Rat.one_mul]
 refine⟨⟨rk (QV k) r,?_,⟨E,c,d,?_,fun u z=>by rw[i];exact m u z⟩,m.NU c d f g,by rw[show(X1 s.1⁻¹ R).length=R.length by simp[X1]];exact w⟩,(b s j).Ef n a (Ze _) f g,v.Ef c d a f g⟩
 ·rw[OQ o _ q,p]
 ·have:=l _ (b s j);rw[p]at this;have e:(1:Rat)⁻¹=1:=by grind
  rw[e];exact this
section
variable {B:Xs}{o:M'}{lo:PL}
theorem lN (I:Std B)(so:TR lo o)(ho:Vt o)(n:o.length<1000000)(hv:Xu B 22 [.one lo] (.one (.bool true))){e:N'}{a:S'}(w:VS e a)(O:a.length<=40){hf:Nat}
  (Y:∀f∈a,Pl f/\f.length<=200/\∃G F,0<G/\G<=F/\2*F<=32^hf/\VQ G F f) {c:P'->Nat} {l:J'} (T:Rg o a c l) (b0:l.length<=100) (a6:∀(m:P') (f:Z') (lc:Rat) (q A:_),f∈a->L8 q->Fe o A lc m f->Xg q m∈l->∀u∈f,XD (Xg q u.2))
  {x:PL} {X:Z'} (px:PQ x X) (d:Pl X) (hm:∀u∈X,u.2∈l) {D C H:Nat} (hD:0<D) (N:D<=C) (hC:2*C<=32^H) (fr:VQ D C X) (b2:H+101*(H+V4 c l+hf+3)<=1200000000000):
  ∃r R g,(XS B fun E _=>(∀h,h 0=some (Ud e.length e)->WI E h 84 [.agg [.p x,.p .Xq],.one (.own 0 e.length 0 e.length),.one (.p lo)]=some ⟨.agg [.p r,.p .Xq],[],[(0,Ud e.length e)],[0]⟩)/\
   ∀h,WI E h 84 [.agg [.p x,.p .Xq],.one (.p (.Xn (Ub e))),.one (.p lo)]=some ⟨.agg [.p r,.p .Xq],[],[],[]⟩)/\PQ r (S5 o R)/\Gz o a c l H X R g:=by
 have k:H+V4 c l<=1200000000000:=by omega
 obtain⟨g,R,G,F,g1,U,V,W,g5,g6,j,J,g9,a9,a0,a3,a4⟩:=CI (NN:=l.length+1) (by omega) l T (by omega) d hm hD N hC k fr (Qs:=List.replicate a.length []) (by simp) (fun Q b=>by
  rw[(YR.1 b).2];exact⟨Pl.nil,(fun _ h=>by cases h),by simp⟩) Pl.nil (fun _ h=>by cases h) (by simp) (fun _ h=>by cases h)
 have a5:∀f∈a,f.length<100000:=fun f hf=>by have:=(Y f hf).2.1;omega
 have b1:e.length=a.length:=w.length;obtain⟨S,lr,k1,k2,k3,k4⟩:=xL I so ho n (L:=.Xn (Xf e)) .Xn w a5 (by omega) hv px g1;have up:∀(i:Nat) (Q f:Z'),g[i]? =some Q->a[i]? =some f->∀u∈Q,∃lc m A,Fe o A lc m f/\Xg u.2 m∈l:=fun i Q f K M u z=>by
  rcases a3 i Q f K M u z with⟨Q0,e1,v,hv,-⟩|h
  ·rw[Yf]at e1;split at e1
   ·cases e1;cases hv
   ·cases e1
  ·exact h
 have RS:Gz o a c l H X R g:=⟨J,fun u z=>(a0 u z).resolve_left (fun h=>by cases h),fun φ=>by
  have:=a4 φ;rw[aV]at this;simp only[X2]at this;rw[<-this];grind,g6,fun Q b=>(j Q b).1,up,G,F,U,V,W,g9⟩
 obtain⟨y,e1,e2⟩:=ik I (hq:=H+V4 c l) (hf:=hf) (n1:=100) (n2:=200) (by omega) (by omega) (by omega) k2 w g6 px d hD N hC fr (fun Q b=>⟨(j Q b).1,by have:=(j Q b).2.2;omega,G,F,U,V,W,(j Q b).2.1⟩) Y (fun i Q f K M t ht u z=>by
   obtain⟨lc,m,A,a1,a2⟩:=up i Q f K M t ht;exact a6 m f lc t.2 A (Zk M) ((j Q (Zk K)).1.q8 t ht) a1 a2 u z) (by
   have :a.length*(H+V4 c l+hf+3)<=40*(H+V4 c l+hf+3):=Zn _ O;omega) (by
   have K:=Pe T.dc T.l8 d hm;have M:a.length*(100*200)<=40*20000:=Zn _ O;have h3:a.length*(100*200)=a.length*20000:=rfl;omega)
 have a7:fy X g a=R:=by
  refine Om.ext (nK d (fun Q b=>(j Q b).1) (fun f hf=>(Y f hf).1)).dc J.dc fun m=> ?_
  rw[Wo,Wo,nJ _ d (fun Q b=>(j Q b).1) (fun f hf=>(Y f hf).1),RS.eq];grind
 rw[a7]at e2;have lR:R.length<=l.length:=Pe T.dc T.l8 J fun u z=>(RS.mem u z).1
 have a8:Sz R:=g9.NU U V W k;have P:∃r,Xu B 89 [.agg [y,.Xq],.one lo] (.agg [r,.Xq])/\PQ r (S5 o R):=by
  unfold S5;cases Z:XR o R with
  |none=>
   have:=Td Z;rw[this]at e2;exact⟨y,sE I so ho n e2,by rw[this];exact e2⟩
  |some s=>
   obtain⟨-,q1,q2⟩:=bJ J U V W k g9 (by omega) Z;exact ju I so ho n e2 (by omega) a8 Z (XK J Z).2.2.1 q2 q1
 obtain⟨r,m1,m2⟩:=P;have v1:=sA I (Q:=.Xn (Xf S)) .Xn (by omega) k1 e1 m1;have v2:=sw I (L:=.Xn (Ub e)) .Xn (Q:=.Xn (Xf S)) .Xn (by omega) k1 e1 m1;exact⟨r,R,g,v1.and v2,m2,RS⟩
end
end Go.Proofs.YtidginchkjhobaaGreat
namespace Go.Proofs.YtidginchkjhobaaGreat
open Go.Ev Go.Num
theorem cn (c:P'->Nat)(p:P'->Bool):∀(l:J'),V4 c (l.filter p)<=V4 c l
 |[]=>Ze _
 |n::l=>by
  have a:=cn c p l;rw[List.filter_cons];split
  ·simp only[V4];omega
  ·simp only[V4];omega
theorem Rg.below {o:M'}{p:S'}{c:P'->Nat}{l:J'}(h:Rg o p c l){L:P'}(s:L8 L):Rg o p c (l.filter fun n=>decide (WO o n L)):=by
 refine⟨h.dc.sublist List.filter_sublist,fun n t=>h.ok n (Yo.1 t).1,fun j g=> ?_⟩;obtain⟨k,r⟩:=Yo.1 g;rcases h.dv j k with e|⟨i,f,lc,m,A,e1,e2,e3,e4,e5,e6⟩
 ·exact .inl e
 ·refine .inr ⟨i,f,lc,m,A,e1,e2,e3,e4,e5,fun u b a=>Yo.2 ⟨e6 u b a,decide_eq_true ?_⟩⟩;have d:=h.l8 j k;have q:=Vy d e3.m8;have:=(e3.lt b a).add q (e3.pl.q8 u b) e3.m8;rw[XW (XQ j m) m,W6 (e3.m8.trans d.symm) e5]at this;exact this.trans (Vr q (e3.pl.q8 u b)) d s (of_decide_eq_true r)
def Gb (f g:Z')(s t:P'):Z':=Wh (Wu (XG (-1) s f)) (Wu (XG 1 t g))
theorem iS:(1:Rat)≠0:=by decide
theorem bK:(-1:Rat)≠0:=by decide
theorem AZ {f g:Z'}{s t:P'}(a:Pl f)(b:Pl g)(c:L8 s)(d:L8 t):Pl (Gb f g s t):=(VH (VJ bK c a)).add (VH (VJ iS d b))
theorem AY {f g:Z'}{s t:P'}(b:Pl f)(c:Pl g)(d:L8 s)(e:L8 t)(a:P'->Rat):X2 (Gb f g s t) a=(X2 f fun n=>a (Xg s n))-X2 g fun n=>a (Xg t n):=by
 unfold Gb;rw[VC a _ _ _ (Ze _) (VH (VJ bK d b)).q8 (VH (VJ iS e c)).q8,RR,RR,Tr,Tr];grind
theorem GW {f g:Z'}{s t:P'}(k:Pl f)(l:Pl g)(m:L8 s)(n:L8 t){D A E C:Nat}(h:VQ D A f)(i:VQ E C g)(hE:E<=C)(j:D<=A):VQ (D*E) (2*A*C) (Gb f g s t):=by
 have c:VQ (D*E) (A*E) (Wu (XG (-1) s f)):=by
  refine VQ.Wu fun x b=> ?_
  obtain⟨u,a,-,e⟩:=Vo b;have :(-1:Rat)*u.1= -u.1:=by grind
  rw[e,this];exact(Fr.scale (h u a)).neg
 have d:VQ (D*E) (C*D) (Wu (XG 1 t g)):=by
  refine VQ.Wu fun x b=> ?_
  obtain⟨u,a,-,e⟩:=Vo b;rw[e,Rat.one_mul,ZR D];exact Fr.scale (i u a)
 refine(VQ.Wh (VH (VJ bK m k)).q8 (VH (VJ iS n l)).q8 c d).mono ?_;have o:=Yb A hE;have p:C*D<=A*C:=by rw[ZR];exact Zn _ j
 have q:2*A*C=A*C+A*C:=by rw[Z3,Nat.two_mul]
 omega
theorem Eg {o:M'}{f g:Z'}{s t m n L:P'}(d:Pl f)(i:Pl g)(l:L8 s)(p:L8 t)(M:XR o f=some (1,m))(N:XR o g=some (1,n))(q:Xg s m=L)(r:Xg t n=L):∀u∈Gb f g s t,WO o u.2 L/\((∃x∈f,x.2≠m/\u.2=Xg s x.2)\/∃x∈g,x.2≠n/\u.2=Xg t x.2):=by
 intro u z;have G:=AZ d i l p;have K:=G.SQ.Tj u z;obtain⟨I,C,O,D⟩:=XK d M;obtain⟨J,E,P,F⟩:=XK i N;have H:SN (Gb f g s t) L=0:=by
  rw[Wo,AY d i l p,iF d I (φ:=fun k=>WW L (Xg s k)) fun x a=> ?_,iF i J (φ:=fun k=>WW L (Xg t k)) fun x a=> ?_]
  ·show WW L (Xg s m)*1-WW L (Xg t n)*1=0;rw[q,r];grind
  ·rcases F x a with e|e
   ·exact .inl e
   ·right;have:=e.add p (i.q8 x a) E;rw[r]at this;show WW L (Xg t x.2)=0;unfold WW;rw[if_neg this.ne]
  ·rcases D x a with e|e
   ·exact .inl e
   ·right;have:=e.add l (d.q8 x a) C;rw[q]at this;show WW L (Xg s x.2)=0;unfold WW;rw[if_neg this.ne]
 have j:u.2≠L:=fun e=>G.SQ.nz u z (by rw[<-K,e,H])
 rcases Vj _ (Ze _) (VH (VJ bK l d)).q8 (VH (VJ iS p i)).q8 z with⟨v,A,e⟩|⟨v,A,e⟩
 ·obtain⟨w,B,e2,-⟩:=Ph A;obtain⟨x,a,y,-⟩:=Vo B;have c:u.2=Xg s x.2:=by rw[<-e,e2,y]
  have b:x.2≠m:=fun h=>j (by rw[c,h,q])
  rcases D x a with h|h
  ·exact absurd (congrArg Prod.snd h) b
  ·have:=h.add l (d.q8 x a) C;rw[q,<-c]at this;exact⟨this,.inl ⟨x,a,b,c⟩⟩
 ·obtain⟨w,B,e2,-⟩:=Ph A;obtain⟨x,a,y,-⟩:=Vo B;have c:u.2=Xg t x.2:=by rw[<-e,e2,y]
  have b:x.2≠n:=fun h=>j (by rw[c,h,r])
  rcases F x a with h|h
  ·exact absurd (congrArg Prod.snd h) b
  ·have:=h.add p (i.q8 x a) E;rw[r,<-c]at this;exact⟨this,.inr ⟨x,a,b,c⟩⟩
section
variable {B:Xs}{o:M'}{lo:PL}
theorem GU:Sq (1:Rat):=by
 have h:(Xd 1).length=1:=T6.2 (by decide);unfold Sq;show(Xd 1).length<_/\(Xd 1).length<_;omega
theorem Fj (h:Std B)(Y:TR lo o)(R:Vt o)(l:o.length<1000000){p q:PL}{f g:Z'}(U:PQ p f)(V:PQ q g)(lf:f.length<=200)(lg:g.length<=200)(W:Sz f)(X:Sz g){c d:Rat}{m n:P'}(hf:XR o f=some (c,m))(hg:XR o g=some (d,n))(a:XD m)(b:XD n)
  (D:∀u∈f,XD (Xg (XQ (XJ m n) m) u.2)) (E:∀u∈g,XD (Xg (XQ (XJ m n) n) u.2)):∃y,Xu B 88 [.agg [p,.Xq],.agg [q,.Xq],.one lo] (.agg [y,.Xq])/\PQ y (Gb f g (XQ (XJ m n) m) (XQ (XJ m n) n)):=by
 have h1:=S6 h Y R l U (by omega) hf;have h2:=S6 h Y R l V (by omega) hg;have h3:=ig h a b;have i:=bO a b;have h4:=OA h i a (Tu _ _ (a.1.trans b.1.symm));have h5:=OA h i b (Tt _ _ (a.1.trans b.1.symm));have r:=UG i a;have s:=UG i b;obtain⟨w,w1,w2⟩:=Rm h (x:=.negSucc 0) (by unfold DE;decide);obtain⟨v,v1,Z⟩:=Rm h (x:=.ofNat 1) (by unfold DE;decide);obtain⟨H,I,J,K,rfl⟩:=w2.len;obtain⟨L,M,N,O,rfl⟩:=Z.len;have G:Ri [.bool H,I,.bool J,K] (-1):=w2;have F:Ri [.bool L,M,.bool N,O] 1:=Z;have p1:PQ (.Xn [.bool H::I::.bool J::K::mo (XQ (XJ m n) m)]) [((-1:Rat),XQ (XJ m n) m)]:=⟨_,.Xn,.cons (W0.mk G r) .nil⟩;have p2:PQ (.Xn [.bool L::M::.bool N::O::mo (XQ (XJ m n) n)]) [((1:Rat),XQ (XJ m n) n)]:=⟨_,.Xn,.cons (W0.mk F s) .nil⟩;have k:Sz (XG (-1) (XQ (XJ m n) m) f):=fun x j=>by
  obtain⟨u,C,-,e⟩:=Vo j;have :(-1:Rat)*u.1= -u.1:=by grind
  rw[e,this];exact(W u C).neg
 have z:Sz (XG 1 (XQ (XJ m n) n) g):=fun x j=>by
  obtain⟨u,C,-,e⟩:=Vo j;rw[e,Rat.one_mul];exact X u C
 obtain⟨r1,c1,P⟩:=bt h p1 U (fun x j=>by rw[ZS.1 j];exact nM) W (fun t A=>by
  rw[ZS.1 A];exact⟨bK,D⟩) ⟨Sz.nil,k,trivial⟩ (by simp) (by omega) (by simp;omega)
 rw[bI]at P;obtain⟨S,d1,Q⟩:=SX h (lp:=.Xq) (ts:=[]) ⟨[],.nil,.nil⟩ P Sz.nil k (by simp) (by simp[XG];omega);rw[X6]at Q;obtain⟨r2,e1,e2⟩:=bt h p2 V (fun x j=>by rw[ZS.1 j];exact GU) X (fun t A=>by
  rw[ZS.1 A];exact⟨iS,E⟩) ⟨Sz.nil,z,trivial⟩ (by simp) (by omega) (by simp;omega)
 rw[bI]at e2;have ln:(Wu (XG (-1) (XQ (XJ m n) m) f)).length=f.length:=by simp[Wu,X1,XG]
 obtain⟨T,f1,f2⟩:=SX h (lp:=.Xn S) ⟨S,.Xn,Q⟩ e2 k.neg z (by show(Wu (XG (-1) (XQ (XJ m n) m) f)).length<1000000;omega) (by simp[XG];omega);have h6:=aD h c1 d1 (e:=.Xn []) .Xn;have h7:=aD h e1 f1 (e:=.Xq) .nil;exact⟨.Xn T,vm h a.1 b.1 i.1 r.1 s.1 h1 h2 h3 h4 h5 w1 v1 h6 h7,⟨T,.Xn,f2⟩⟩
end
end Go.Proofs.YtidginchkjhobaaGreat
namespace Go.Proofs.YtidginchkjhobaaGreat
open Go.Ev Go.Num
theorem br {o:M'}{b:S'}{P:P'->Prop}:∀{Qs fs:S'},(∀f∈fs,f∈b)->(∀(i:Nat) (Q f:Z'),Qs[i]? =some Q->fs[i]? =some f->∀u∈Q,∃lc m A,Fe o A lc m f/\L8 u.2/\P (Xg u.2 m))->UF o b P (V6 Qs fs)
 |[],_,_,_=>.zero fun _=>by simp only[V6]
 |_::_,[],_,_=>.zero fun _=>by simp only[V6]
 |Q::Qs,f::fs,hm,h=>by
  have c:=br (Qs:=Qs) (fs:=fs) (fun g j=>hm g (Zb _ j)) fun i Q f z B=>h (i+1) Q f (by grind) (by grind)
  have h0:=h 0 Q f rfl rfl;cases e:Q with
  |nil=>exact c.congr fun r=>by grind [V6,X2]
  |cons t p=>
   rw[e]at h0;obtain⟨lc,m,A,a,v,w⟩:=h0 t (Zc ..);have n:=UF.prod (P:=P) (hm f (Zc ..)) a.ld (q:=t::p) fun u k=>by
    obtain⟨l,C,s,d,x,y⟩:=h0 u k;have:=d.ld;rw[a.ld]at this
    grind
   exact(n.plus c).congr fun r=>by simp only[V6]
theorem jf {b:Nat}:∀{m n:P'},m.length=n.length->(∀x∈Xg m n,x<=b)->∀x∈m,x<=b
 |[],_,_,_,x,h=>by cases h
 |_::_,[],h,_,_,_=>by simp at h
 |a::m,c::n,h,k,x,hx=>by
  have e:Xg (a::m) (c::n)=(a+c)::Xg m n:=rfl;rw[e]at k;rcases Zj.1 hx with rfl|hx
  ·grind [Zc]
  ·exact jf (by simpa using h) (fun y d=>k y (Zb _ d)) x hx
structure GA (o:M')(ms:List (Nat×Nat))(w:P'):Prop where
 bx:vT o ms
 ml:ms.length<=100
 w8:w.length=8
 wp:∀x∈w,0<x
 hw:∀p∈ms,∀c d,WO o (m2 p) (Vi c d)->WB w (m2 p)<=WB w (Vi c d)
theorem Q2.size {o:M'}{ms:List (Nat×Nat)}{e:El}{f:Z'}(h:Q2 o ms e f):∃D A,0<D/\D<=A/\2*A<=32^e.h/\VQ D A f:=by
 obtain⟨A,F,c⟩:=h.fe;obtain⟨D,a,b,d,g⟩:=F.cf;refine⟨D,A,a,b,c,fun u i=> ?_⟩
 grind
theorem Q2.wt {o:M'}{ms:List (Nat×Nat)}{w:P'}(G:GA o ms w){e:El}{f:Z'}(h:Q2 o ms e f):∀u∈f,WB w u.2<=WB w (Vi e.a e.b):=fun u d=>by
 obtain⟨A,F,j⟩:=h.fe;by_cases c:u.2=Vi e.a e.b
 ·grind
 ·obtain⟨p,i,g⟩:=h.Ko u d;have:=F.lt d c;rw[g]at this⊢;exact G.hw p i _ _ this
theorem Dl (e f:El):Dm e f=Dm f e:=by grind [Dm]
theorem B6 {o:M'}{ms:List (Nat×Nat)}{j:List El}{n:S'}(B:vT o ms)(G:Fit o ms j n){e f:El}{H R:Nat}(M:Q1 j ms (W4 ms) H R e f\/Q1 j ms (W4 ms) H R f e)(I:Dm e f=false)(C:e.a<16)(D:e.b<16)(E:f.a<16)(F:f.b<16):
  ∃l,Rg o n (Gu j) l/\(∀g∈l,∃p∈ms,g=m2 p)/\l.length<=ms.length/\e.h+f.h+V4 (Gu j) l<=H/\(∀c d,c<16->d<16->Nat.testBit e.t (Su c d)=true->Vi (max e.a f.a-e.a+c) (max e.b f.b-e.b+d)∈l)/\(∀c d,c<16->d<16->Nat.testBit f.t (Su c d)=true->Vi (max e.a f.a-f.a+c) (max e.b f.b-f.b+d)∈l)/\
   ∀g∈l,WE o g n 0=none->∃p∈ms,g=m2 p/\Nat.testBit R (Su p.1 p.2)=true:=by
 rcases M with⟨J,K,q,L,r⟩|⟨J,K,q,L,r⟩
 ·obtain⟨l,v,u,w,N,k,m,x⟩:=wL B G q I C D E F;refine⟨l,v,u,w,by omega,k,m,fun g i s=> ?_⟩;obtain⟨p,y,z,A⟩:=x g i s;exact⟨p,y,z,r _ A⟩
 ·obtain⟨l,v,u,w,N,k,m,x⟩:=wL B G q (by rw[Dl];exact I) E F C D;rw[Nat.max_comm f.a,Nat.max_comm f.b]at k m;refine⟨l,v,u,w,by omega,m,k,fun g i s=> ?_⟩;obtain⟨p,y,z,A⟩:=x g i s;exact⟨p,y,z,r _ A⟩
theorem nA {k:P'}(h:L8 k):Xg zM k=k:=by grind [Qb]
section
variable {B:Xs}{o:M'}{lo:PL}{ms:List (Nat×Nat)}{w:P'}
theorem y0 (hB:Std B)(so:TR lo o)(ho:Vt o)(b9:o.length<1000000)(hv:Xu B 22 [.one lo] (.one (.bool true)))(G:GA o ms w){st:List El}{ps:N'}{W:S'}(ft:Fit o ms st W)(e6:VS ps W)(e3:W.length<=40){hm:Nat}(a9:∀e∈st,e.h<=hm)(g1:hm<=1000000){H R:Nat}(hH:H<=hm)
  {p q:PL} {f g:Z'} (pf:PQ p f) (qg:PQ q g) (hf:f∈W) (hg:g∈W) {e j:El} (I:Q2 o ms e f) (J:Q2 o ms j g) (d9:e∈st) (b6:j∈st) (a8:Q1 st ms (W4 ms) H R e j\/Q1 st ms (W4 ms) H R j e) (hc:Dm e j=false):
  ∃s r R0,Xu B 88 [.agg [p,.Xq],.agg [q,.Xq],.one lo] (.agg [s,.Xq])/\(XS B fun E _=>∀h,h 0=some (Ud ps.length ps)->WI E h 84 [.agg [.p s,.p .Xq],.one (.own 0 ps.length 0 ps.length),.one (.p lo)]=some ⟨.agg [.p r,.p .Xq],[],[(0,Ud ps.length ps)],[0]⟩)/\PQ r R0/\
   (R0=[]\/∃e2∈kids H R ms,Q2 o ms e2 R0)/\∀y,(∀f∈W,f∈y)->(R0≠[]->R0∈y)->(∀f∈y,Pl f)->SB o w y f g (1,Vi e.a e.b) (1,Vi j.a j.b):=by
 obtain⟨l,e8,a6,e7,g2,g4,g5,g3⟩:=B6 G.bx ft a8 hc I.Iq I.Io J.Iq J.Io;obtain⟨A,f2,hA⟩:=I.fe;obtain⟨A',f3,f6⟩:=J.fe;obtain⟨D1,C1,d1,d2,d3,d4⟩:=I.size;obtain⟨D2,C2,c1,c2,c3,c4⟩:=J.size;have em:=I.Iq;have f4:=I.Io;have gm:=J.Iq;have f5:=J.Io;have f8:=a9 e d9;have f9:=a9 j b6;obtain⟨L,hL⟩:∃L,L=Vi (max e.a j.a) (max e.b j.b):=⟨_,rfl⟩;have d7:L8 L:=by rw[hL];rfl
 have X:XJ (Vi e.a e.b) (Vi j.a j.b)=L:=hL.symm;have s8:L8 (XQ L (Vi e.a e.b)):=by rw[hL];rfl
 have t8:L8 (XQ L (Vi j.a j.b)):=by rw[hL];rfl
 have es:Xg (XQ L (Vi e.a e.b)) (Vi e.a e.b)=L:=by grind [bL,bM,YZ,Nat.le_max_left]
 have et:Xg (XQ L (Vi j.a j.b)) (Vi j.a j.b)=L:=by grind [bL,bM,YZ,Nat.le_max_right]
 have rg:=e8.below d7;have d8:=cn (Gu st) (fun n=>decide (WO o n L)) l;have a4:(l.filter fun n=>decide (WO o n L)).length<=100:=Zx (List.length_filter_le ..) (Zx e7 G.ml);generalize g0:(l.filter fun n=>decide (WO o n L))=l' at *;have T:∀n∈l',n∈l/\WO o n L:=fun n hn=>by
  grind
 have c6:∀n,n∈l->WO o n L->n∈l':=fun n h1 M=>by grind
 have Z:=I.pl;have a0:=J.pl;have sf:Sz f:=d4.NU d1 d2 d3 (by omega);have sg:Sz g:=c4.NU c1 c2 c3 (by omega);have c8:∀(f:Z') (e:El) (k:Nat),Q2 o ms e f->∀(a b:Nat),a<16->b<16->∀u∈f,XD (Xg (Vi a b) u.2):=fun f e k e0 a b ha hb u z=>by
  obtain⟨p,hp,ep⟩:=e0.Ko u z;obtain⟨x1,x2⟩:=G.bx.lt p hp;rw[ep];show XD (Vi (a+p.1) (b+p.2))
  grind [aw]
 have lf:=I.ln;have lg:=J.ln;have c5:=Fj hB so ho b9 pf qg (by omega) (by omega) sf sg I.ld J.ld (aw (by omega) (by omega)) (aw (by omega) (by omega)) (by
  rw[X,hL];exact c8 f e 0 I (max e.a j.a-e.a) (max e.b j.b-e.b) (by omega) (by omega)) (by
  rw[X,hL];exact c8 g j 0 J (max e.a j.a-j.a) (max e.b j.b-j.b) (by omega) (by omega))
 rw[X]at c5;obtain⟨s,c9,e9⟩:=c5;have AB:=AZ Z a0 s8 t8;have c7:∀u∈Gb f g (XQ L (Vi e.a e.b)) (XQ L (Vi j.a j.b)),u.2∈l':=fun u z=>by
  obtain⟨h1,M⟩:=Eg Z a0 s8 t8 I.ld J.ld es et u z;refine c6 _ ?_ h1;rcases M with⟨x,Y,F,eu⟩|⟨x,Y,F,eu⟩
  ·obtain⟨c,d,ex,b4,b5,b3⟩:=I.tl x Y F
   grind [bL,bM]
  ·obtain⟨c,d,ex,b4,b5,b3⟩:=J.tl x Y F
   grind [bL,bM]
 have d0:=GW Z a0 s8 t8 d4 c4 c2 d2;have d5:D1*D2<=2*C1*C2:=by
  have:=ZT d2 c2
  grind
 obtain⟨r,O,Qs,v,pr,U⟩:=lN hB so ho b9 hv e6 e3 (hf:=hm) (fun f hf=>by
  obtain⟨e1,h1,M⟩:=ft.all f hf;obtain⟨D',C',k1,k2,k3,k4⟩:=M.size;have:=M.ln;have f1:(32:Nat)^e1.h<=32^hm:=Yt (by decide) (a9 e1 h1);exact⟨M.pl,by omega,D',C',k1,k2,by omega,k4⟩) rg a4 (fun m f lc q A hf c0 d6 a7 u z=>by
  obtain⟨e1,h1,M⟩:=ft.all f hf;obtain⟨p,hp,ep⟩:=a6 _ (T _ a7).1;obtain⟨x1,x2⟩:=G.bx.lt p hp;have hq:∀x∈q,x<=15:=jf (n:=m) (c0.trans d6.m8.symm) (by
   rw[ep];intro x Y;simp only[Zj,ZV,or_false]at Y;omega)
  obtain⟨p2,e5,b0⟩:=M.Ko u z;obtain⟨y1,y2⟩:=G.bx.lt p2 e5;refine⟨Vr c0 (by rw[b0];rfl),fun x Y=> ?_⟩;have:=tF (e:=15) (f:=15) hq (n:=u.2) (by
   rw[b0];intro x Y;simp only[Zj,ZV,or_false]at Y;omega) x Y
  omega) e9 AB c7 (Yi d1 c1) d5 (nG d3 c3 (Ze _)) d0 (by omega)
 obtain⟨D3,C3,z1,z2,z3,z4⟩:=U.sz;have hz:e.h+j.h+V4 (Gu st) l'<=H:=by omega
 have z5:2*C3<=32^H:=Zx z3 (Yt (by decide) hz);have lR:O.length<=100:=Zx (Pe rg.dc rg.l8 U.pl fun u z=>(U.mem u z).1) a4;have a5:∀y,(∀f∈W,f∈y)->UF o y (fun n=>L8 n/\WB w n<=WB w L/\WO o n L) (V6 Qs W):=fun y S=>br S fun i Q f h1 M u z=>by
  obtain⟨lc,m,A,a1,a2⟩:=U.up i Q f h1 M u z;obtain⟨b1,V⟩:=T _ a2;obtain⟨p,hp,ep⟩:=a6 _ b1;refine⟨lc,m,A,a1,(U.qp Q (Zk h1)).q8 u z,by rw[ep];rfl,?_,V⟩;rw[ep]at V⊢;rw[hL]at V⊢;exact G.hw p hp _ _ V
 have a3:∀y,UF o y (fun n=>L8 n/\WB w n<=WB w L/\WO o n L) (fun φ=>X2 O φ)->UF o y (fun n=>L8 n/\WB w n<=WB w L/\WO o n L) (V6 Qs W)->SB o w y f g (1,Vi e.a e.b) (1,Vi j.a j.b):=fun y r1 r2=>by
  unfold SB;show UF o y (fun n=>L8 n/\WB w n<=WB w (XJ (Vi e.a e.b) (Vi j.a j.b))/\WO o n (XJ (Vi e.a e.b) (Vi j.a j.b))) fun φ=>1*(X2 f fun n=>φ (Xg (XQ (XJ (Vi e.a e.b) (Vi j.a j.b)) (Vi e.a e.b)) n))-1*X2 g fun n=>φ (Xg (XQ (XJ (Vi e.a e.b) (Vi j.a j.b)) (Vi j.a j.b)) n)
  rw[X];refine(r1.plus r2).congr fun φ=> ?_
  rw[<-U.eq,AY Z a0 s8 t8];grind
 cases hR:XR o O with
 |none=>
  have hn:=Td hR;have em:S5 o O=[]:=by grind [S5]
  rw[em]at pr;refine⟨s,r,[],c9,v.mono fun E K h=>h.1,pr,.inl rfl,fun y S _ _=>a3 y ?_ (a5 y S)⟩;rw[hn];exact .zero fun φ=>by simp only[X2]
 |some N=>
  obtain⟨q1,q2,q3,q4⟩:=XK U.pl hR;have em:S5 o O=X1 N.1⁻¹ O:=by unfold S5;rw[hR]
  rw[em]at pr;obtain⟨w1,w2,w3⟩:=bJ U.pl z1 z2 z5 (by omega) z4 (by omega) hR;have C:∀u∈O,∃p∈ms,u.2=m2 p/\Nat.testBit R (Su p.1 p.2)=true:=fun u z=>by
   obtain⟨x1,x2⟩:=U.mem u z
   grind
  obtain⟨p0,p1,p2,p3⟩:=C N q1;obtain⟨g6,f0,D⟩:=List.append_of_mem p1;have b7:=jg (H:=H) (R:=R) (a:=p0.1) (b:=p0.2) D p3;refine⟨s,r,X1 N.1⁻¹ O,c9,v.mono fun E K h=>h.1,pr,.inr ⟨_,b7,⟨⟨C3,by grind,z5⟩,fun u z F=> ?_,(G.bx.lt p0 p1).1,(G.bx.lt p0 p1).2,by grind [X1],fun u z=> ?_⟩⟩,fun y S a7 e4=>a3 y ?_ (a5 y S)⟩
  ·obtain⟨t,ht,e1,-⟩:=TU z;obtain⟨p4,p5,p6,p7⟩:=C t ht;have b8:WO o t.2 N.2:=by
    grind
   obtain⟨y1,y2⟩:=G.bx.lt p4 p5;refine⟨p4.1,p4.2,by rw[e1,p6],y1,y2,?_⟩;show Nat.testBit (Nat.land R (W4 f0)) _=true;rw[v7,p7,Bool.true_and,Nn];refine⟨p4,?_,rfl⟩;have hd:=G.bx.dc;rw[D]at p5 hd;rw[List.map_append,Zt]at hd;have M:=(List.pairwise_append.1 hd).2.2;rcases ZW.1 p5 with h|h
   ·exfalso;have:=M (m2 p4) (ZM.2 ⟨p4,h,rfl⟩) (m2 p0) (Zc ..);rw[p6,p2]at b8;exact this.asymm rfl rfl b8
   grind
  ·obtain⟨t,ht,e1,-⟩:=TU z;obtain⟨p4,p5,p6,-⟩:=C t ht
   grind
  ·have F:X1 N.1⁻¹ O≠[]:=fun h=>by
    grind [X1,Zr]
   have hl:=w1.ld;have f7:L8 N.2/\WB w N.2<=WB w L/\WO o N.2 L:=by
    obtain⟨b1,V⟩:=T _ (U.mem N q1).1;refine⟨q2,?_,V⟩;rw[p2]at V⊢;rw[hL]at V⊢;exact G.hw p0 p1 _ _ V
   refine(UF.one (P:=fun n=>L8 n/\WB w n<=WB w L/\WO o n L) e4 (a7 F) hl (m:=zM) (c:=N.1) rfl (by
    grind [nA])).congr fun φ=> ?_
   have e1:(X2 (X1 N.1⁻¹ O) fun k=>φ (Xg zM k))=X2 (X1 N.1⁻¹ O) φ:=Ua fun u z=>by rw[nA (w1.pl.q8 u z)]
   grind [Ny]
end
end Go.Proofs.YtidginchkjhobaaGreat
namespace Go
abbrev O':=List Go.Num.El
end Go
