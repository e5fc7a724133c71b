/- Division by monic polynomials in a region of monomials: plain facts. -/
import Derived.Test.YtidginchkjhobaaGreatBase
namespace Go.Ev
open Go.Proofs.YtidginchkjhobaaGreat
theorem yE {h}(c:h<=1200000000000):∃k,k<200000000000/\(32:Nat)^h<=4294967296^k:=by
 refine⟨h*5 / 32+1,by omega,?_⟩;have a:(32:Nat)^h=2^(5*h):=by grind [Nat.pow_mul]
 have b:(4294967296:Nat)^(h*5 / 32+1)=2^(32*(h*5 / 32+1)):=by grind [Nat.pow_mul]
 rw[a,b];exact Z5 (by decide) (by omega)
theorem Fr.Gq {D c C h}{x}(f:Fr D c x)(d:0<D)(a:D<=C)(b:c<=C)(i:2*C<=32^h)(e:h<=1200000000000):Sq x:=by
 obtain⟨k,g,j⟩:=yE e;exact f.sq g d a b (by omega)
theorem W8.RA {D C h}{a}(g:W8 D C a)(d:0<D)(b:D<=C)(c:2*C<=32^h)(e:h<=1200000000000):Sz a:=fun t f=>(g t f).Gq d b (Zf _) c e
theorem W8.scale {D c}{a}(h:W8 D c a)(E):W8 (D*E) (c*E) a:=fun t b=>Fr.scale (h t b)
def Up (D C D' C':Nat):Prop:=∃E,0<E/\D'=D*E/\C*E<=C'
theorem Up.refl (D C):Up D C D C:=⟨1,by decide,by omega,by omega⟩
theorem Up.trans {D C d c b a}(h:Up D C d c)(k:Up d c b a):Up D C b a:=by
 obtain⟨E,e,rfl,e2⟩:=h;obtain⟨F,f,rfl,g⟩:=k;refine⟨E*F,ZV e f,by rw[Yn],Zy ?_ g⟩;rw[<-Yn];exact Zm _ e2
def WA:S'->S'->(P'->Rat)->Rat
 |q::qs,f::fs=>fun φ=>(XZ q fun m=>XZ f fun k=>φ (Xg m k))+WA qs fs φ
 |_,_=>fun _=>0
theorem Ql:∀{qs fs} {i} {q f q2},qs[i]? =some q->fs[i]? =some f->∀c,WA (qs.set i q2) fs c+(XZ q fun m=>XZ f fun k=>c (Xg m k))=WA qs fs c+XZ q2 fun m=>XZ f fun k=>c (Xg m k)
 |[],_,i,_,_,_,h,_,_=>by simp at h
 |_::_,[],i,_,_,_,_,h,_=>by simp at h
 |a::qs,b::fs,0,q,f,q2,h1,h2,c=>by
  grind [WA]
 |a::qs,b::fs,i+1,q,f,q2,h1,h2,c=>by
  rw[List.getElem?_cons_succ]at h1 h2;have d:=Ql (q2:=q2) h1 h2 c
  grind [WA]
theorem Qn:∀n a (b:P'->Rat),WA (List.replicate n []) a b=0
 |0,_,_=>rfl
 |_+1,[],_=>rfl
 |n+1,f::a,b=>by
  have c:=Qn n a b
  grind [WA,XZ]
theorem Oo {b c}(d:Pl b)(f:Pl c)(k:∀t∈b,∀u∈c,t.2≠u.2){x}(i:x∈X8 b c):x∈b\/x∈c:=by
 have h:=d.add f;have a:=h.Sk.U4 x i;have h0:=h.Sk.nz x i;rw[ly d.q8 f.q8]at a;by_cases e:∃t∈b,t.2=x.2
 ·left;obtain⟨t,g,j⟩:=e;have z:TD c x.2=0:=QC fun u l e2=>k t g u l (j.trans e2.symm)
  rw[z,Rat.add_zero]at a;have:=d.Sk.mem (m:=x.2) (by rw[a];exact h0)
  rwa[a]at this
 ·right;have z:TD b x.2=0:=QC fun t g e2=>e ⟨t,g,e2⟩
  rw[z,Rat.zero_add]at a;have:=f.Sk.mem (m:=x.2) (by rw[a];exact h0)
  rwa[a]at this
theorem Pw {o}{l}(b:FY o l)(a:∀n∈l,L8 n){p}(c:Pl p)(h:∀t∈p,t.2∈l):p.length<=l.length:=by
 have:=PO.eI (o:=o) b a (Th c.Sk) fun t d=>h t ((W0 o p).mem_iff.1 d)
 rwa[Sh]at this
structure Fe (o:M')(A:Nat)(c:Rat)(m:P')(f:I'):Prop where
 pl:Pl f
 ld:XB o f=some (c,m)
 cf:∃D,0<D/\D<=A/\Fr D A c⁻¹/\∀u∈f,Fr D A (c⁻¹*u.1)
 sz:Q4 f
variable {o:M'}{A:Nat}{lc:Rat}{m:P'}{f:I'}
theorem Fe.m8 (h:Fe o A lc m f):L8 m:=(Xy h.pl h.ld).2.1
theorem Fe.c0 (h:Fe o A lc m f):lc≠0:=(Xy h.pl h.ld).2.2.1
theorem Fe.lt (h:Fe o A lc m f){u}(a:u∈f)(b:u.2≠m):Wz o u.2 m:=by
 rcases(Xy h.pl h.ld).2.2.2 u a with e|e
 ·grind
 ·exact e
def V9 (c:P'->Nat):J'->Nat
 |[]=>0
 |n::l=>c n+V9 c l
structure Rg (o:M')(fs:S')(c:P'->Nat)(l:J'):Prop where
 dc:FY o l
 ok:∀n∈l,XA n
 dv:∀δ∈l,WW o δ fs 0=none\/∃i f lc m A,WW o δ fs 0=some i/\fs[i]? =some f/\Fe o A lc m f/\2*A<=32^c δ/\Ww m δ=true/\∀u∈f,u.2≠m->Xg (XO δ m) u.2∈l
theorem Rg.l8 {a}{c}{l}(h:Rg o a c l):∀n∈l,L8 n:=fun n b=>(h.ok n b).1
theorem Rg.tail {j}{c}{p}{l}(h:Rg o j c (p::l)):Rg o j c l:=by
 obtain⟨r,s⟩:=Zu.1 h.dc;refine⟨s,fun n a=>h.ok n (Za _ a),fun n a=> ?_⟩;rcases h.dv n (Za _ a)with e|⟨i,f,lc,m,A,e1,e2,e3,e4,e5,e6⟩
 ·exact .inl e
 ·refine .inr ⟨i,f,lc,m,A,e1,e2,e3,e4,e5,fun u d b=> ?_⟩;rcases Zk.1 (e6 u d b)with k|k
  ·exfalso;have g:=h.l8 n (Za _ a);have q:=h.l8 p (Zc ..);have t:=Va g e3.m8;have:=(e3.lt d b).add t (e3.pl.q8 u d) e3.m8;rw[k,XL (XO n m) m,WD (e3.m8.trans g.symm) e5]at this;exact(r n a).asymm g q this
  ·exact k
theorem EL {U:S'}{c:P'->Nat}{NN:Nat}(a9:NN<=40000):∀(l:J'),Rg o U c l->l.length<1000->∀{left R:I'} {Qs:S'} {D C H:Nat},Pl left->(∀u∈left,u.2∈l)->0<D->D<=C->2*C<=32^H->H+V9 c l<=1200000000000->W8 D C left->
  Qs.length=U.length->(∀Q∈Qs,Pl Q/\W8 D C Q/\Q.length+l.length<NN)->Pl R->W8 D C R->R.length+l.length<NN->(∀u∈R,u.2∉l)->
  ∃g G M L,fI o Q4 XA U left Qs R g G/\0<M/\M<=L/\2*L<=32^(H+V9 c l)/\Up D C M L/\g.length=U.length/\(∀Q∈g,Pl Q/\W8 M L Q/\Q.length<NN)/\Pl G/\W8 M L G/\G.length<NN/\
   (∀u∈G,u∈R\/(u.2∈l/\WW o u.2 U 0=none))/\
   (∀(i:Nat) (W f:I'),g[i]? =some W->U[i]? =some f->∀u∈W,(∃Q,Qs[i]? =some Q/\∃v∈Q,v.2=u.2)\/∃lc m A,Fe o A lc m f/\Xg u.2 m∈l)/\
   ∀φ,XZ left φ+XZ R φ+WA Qs U φ=XZ G φ+WA g U φ
 |l,hr,_,[],R,Qs,D,C,H,_,_,hD,r,hH,hc,_,hQl,V,pR,fR,lR,_=>by
  have b9:(32:Nat)^H<=32^(H+V9 c l):=Z5 (by decide) (by omega);refine⟨Qs,R,D,C,.done,hD,r,by omega,.refl _ _,hQl,fun Q h=>⟨(V Q h).1,(V Q h).2.1,by grind⟩,pR,fR,by omega,fun u a=>.inl a,fun i W f h1 _ u a=>.inl ⟨W,h1,u,a,rfl⟩,fun φ=> ?_⟩;simp only[XZ];grind
 |[],_,_,t::p,_,_,_,_,_,_,hm,_,_,_,_,_,_,_,_,_,_,_=>by grind
 |d::l,hr,hln,t0::p0,R,Qs,D,C,H,J,hm,hD,r,hH,hc,fl,hQl,V,pR,fR,lR,b1=>by
  obtain⟨p1,p2⟩:=Zu.1 hr.dc;have d8:=hr.l8 d (Zc ..);simp only[V9,Zj]at hc hln lR V;obtain⟨t,ht⟩:∃t,XB o (t0::p0)=some t:=⟨_,rfl⟩;generalize b3:t0::p0=left at *;clear b3;obtain⟨t1,t2,t3,t4⟩:=Xy J ht;have a8:H<=1200000000000:=by omega
  have b6:Q4 left:=⟨fl.RA hD r hH a8,by have:=Pw hr.dc hr.l8 J hm;grind⟩;have d6:Q4 R:=⟨fR.RA hD r hH a8,by omega⟩;have a1:∀{x:Qm},Sq x.1->Q4 [x]:=fun{x} h=>⟨fun y hy=>by grind,by simp⟩
  have st:Sq t.1:=b6.1 t t1;by_cases j:t.2=d
  ·have K:=O6 t3 t2;rcases hr.dv d (Zc ..)with hf|⟨i,f,lc,m,A,hf,hfi,F,hA,hdv,hcl⟩
   ·
    have pn:=Vf K;have N:∀φ,XZ (X8 left (WE [t])) φ=XZ left φ-t.1*φ t.2:=fun φ=>by
     rw[VG φ _ _ _ (Zf _) J.q8 pn.q8,T4];simp only[XZ];grind
    have q:=J.add pn;have z:TD (X8 left (WE [t])) d=0:=by
     rw[Wm,N,<-Wm,<-j,J.Sk.U4 t t1];grind [WJ]
    have I:∀u∈X8 left (WE [t]),u.2∈l:=fun u a=>by
     have B:=q.Sk.U4 u a;have a0:u.2≠d:=fun e=>q.Sk.nz u a (by rw[<-B,e,z])
     rcases WC _ (Zf _) J.q8 pn.q8 a with⟨v,hv,e⟩|⟨v,hv,e⟩
     ·grind
     grind [RF]
    have b2:∀u∈R,∀v∈[t],u.2≠v.2:=fun u a v hv e=>b1 u a (by grind)
    have a5:W8 D C (X8 left (WE [t])):=fun u a=>by
     have B:=q.Sk.U4 u a;rw[Wm,N,<-Wm]at B;have a0:WJ u.2 t.2=0:=by
      unfold WJ;rw[if_neg];intro e;have:=I u a;rw[<-e,j]at this;exact(p1 d this).ne rfl
     rw[a0,Rat.mul_zero,Rat.sub_eq_add_neg,Rat.neg_zero,Rat.add_zero]at B;have:=J.Sk.mem (m:=u.2) (by rw[B];exact q.Sk.nz u a);have:=fl _ this
     rwa[B]at this
    have a4:W8 D C (X8 R [t]):=fun u a=>by
     rcases Oo pR K b2 a with h|h
     ·exact fR u h
     ·rw[Yj.1 h];exact fl t t1
    have d1:=UY _ R [t] (Zf _);simp only[Zj,Zr]at d1;have c1:∀u∈X8 R [t],u.2∉l:=fun u a h=>by
     rcases Oo pR K b2 a with k|k
     ·grind
     ·rw[Yj.1 k,j]at h;exact(p1 d h).ne rfl
    obtain⟨g,G,M,L,g1,g2,g3,g4,g5,g6,g7,g8,g9,O,X,Y,Z⟩:=EL a9 l hr.tail (by omega) q I hD r hH (by omega) a5 hQl (fun Q h=>⟨(V Q h).1,(V Q h).2.1,by grind⟩) (pR.add K) a4 (by omega) c1;have b9:(32:Nat)^(H+V9 c l)<=32^(H+V9 c (d::l)):=Z5 (by decide) (by simp only[V9];omega);refine⟨g,G,M,L,.rem b6 d6 (a1 st) ht (by rw[j];exact hf) g1,g2,g3,by omega,g5,g6,g7,g8,g9,O,fun u a=> ?_,fun i W f h1 h2 u a=> ?_,fun φ=> ?_⟩
    ·rcases X u a with h|⟨h,h'⟩
     ·rcases Oo pR K b2 h with k|k
      ·exact .inl k
      grind
     grind
    ·grind
    ·rw[<-Z,N,VG φ _ _ _ (Zf _) pR.q8 K.q8];simp only[XZ];grind
   ·
    have f8:=F.m8;have b4:L8 (XO d m):=Va d8 f8;have c4:Xg (XO d m) m=d:=by grind [XL,WD]
    obtain⟨k,hk⟩:∃k,k=t.1*lc⁻¹:=⟨_,rfl⟩;have T:We t (lc,m)=(k,XO d m):=by
     show(t.1 / lc,XO t.2 m)=_
     grind
    have d2:=F.c0;have k0:k≠0:=by grind
    have e0:k*lc=t.1:=by grind
    have d4:=Ve k0 b4 F.pl;have a2:=Vf d4;have q:=J.add a2;have N:∀φ,XZ (X8 left (WE (XD k (XO d m) f))) φ=XZ left φ-k*XZ f fun n=>φ (Xg (XO d m) n):=fun φ=>by
     rw[VG φ _ _ _ (Zf _) J.q8 a2.q8,T4,Ux];grind
    have s1:=(Xy F.pl F.ld).1;have z:TD (X8 left (WE (XD k (XO d m) f))) d=0:=by
     rw[Wm,N,<-Wm,aV F.pl s1 (φ:=fun n=>WJ d (Xg (XO d m) n)) fun u a=> ?_]
     ·have:=J.Sk.U4 t t1;rw[j]at this;rw[this];show t.1-k*(WJ d (Xg (XO d m) m)*lc)=0
      grind [WJ]
     ·by_cases e:u.2=m
      ·exact .inl (F.pl.uniq s1 a e)
      ·right;have:=(F.lt a e).add b4 (F.pl.q8 u a) f8;rw[c4]at this;show WJ d (Xg (XO d m) u.2)=0;unfold WJ;rw[if_neg this.ne]
    have I:∀u∈X8 left (WE (XD k (XO d m) f)),u.2∈l:=fun u a=>by
     have B:=q.Sk.U4 u a;have a0:u.2≠d:=fun e=>q.Sk.nz u a (by rw[<-B,e,z])
     refine List.mem_of_ne_of_mem a0 ?_;rcases WC _ (Zf _) J.q8 a2.q8 a with⟨v,hv,e⟩|⟨v,hv,e⟩
     ·grind
     grind [RF,WZ]
    obtain⟨E,q1,q2,q0,q3⟩:=F.cf;have A1:1<=A:=by omega
    have d9:C*E<=C*A:=ZE _ q2;have b7:2*(2*A*C)=2*A*(2*C):=by rw[YD]
    have a7:2*(2*A*C)<=32^(H+c d):=by
     rw[b7,Nat.add_comm H,Ye];exact ZA hA hH
    have e2:2*A*C=C*A+C*A:=by grind
    have a6:0<D*E:=ZV hD q1;have S:D*E<=2*A*C:=by
     have:=ZA r q2;omega
    have b8:W8 (D*E) (C*A) (XD k (XO d m) f):=fun u a=>by
     obtain⟨x,hx,-,e⟩:=WZ a;rw[e,hk,Rat.mul_assoc];exact(fl t t1).mul (q3 x hx)
    have a5:W8 (D*E) (2*A*C) (X8 left (WE (XD k (XO d m) f))):=by
     have:=W8.X8 J.q8 a2.q8 (fl.scale E) b8.WE;exact this.mono (by omega)
    have a4:W8 (D*E) (2*A*C) R:=(fR.scale E).mono (by omega);have c3:i<U.length:=(Zg.1 hfi).1;obtain⟨Q,b0⟩:∃Q,Qs[i]? =some Q:=⟨_,Zd (by rw[hQl];exact c3)⟩;obtain⟨n1,n2,n3⟩:=V Q (Zh b0);have a3:Pl [(k,XO d m)]:=O6 k0 b4;have fk:Fr (D*E) (C*A) k:=by rw[hk];exact(fl t t1).mul q0
    have fo:W8 (D*E) (C*A) [(k,XO d m)]:=fun u a=>by grind
    have d0:=UY _ Q [(k,XO d m)] (Zf _);simp only[Zj,Zr]at d0;have c6:W8 (D*E) (2*A*C) (X8 Q [(k,XO d m)]):=by
     exact(W8.X8 n1.q8 a3.q8 (n2.scale E) fo).mono (by omega)
    have c7:∀P∈Qs.set i (X8 Q [(k,XO d m)]),Pl P/\W8 (D*E) (2*A*C) P/\P.length+l.length<NN:=fun P hP=>by
     rcases List.mem_or_eq_of_mem_set hP with h|rfl
     ·obtain⟨k1,k2,k3⟩:=V P h;exact⟨k1,(k2.scale E).mono (by omega),by omega⟩
     ·exact⟨n1.add a3,c6,by omega⟩
    obtain⟨g,G,M,L,g1,g2,g3,g4,g5,g6,g7,g8,g9,O,X,Y,Z⟩:=EL a9 l hr.tail (by omega) q I a6 S a7 (by omega) a5 (by grind) c7 pR a4 (by omega) (fun u a h=>b1 u a (Za _ h));have c5:Q4 f:=F.sz;have c2:H+c d<=1200000000000:=by omega
    have d7:Q4 (XD k (XO d m) f):=⟨(b8.mono (b:=2*A*C) (by omega)).RA a6 S a7 c2,by unfold XD;rw[ZP];exact F.sz.2⟩;have d3:∀u∈f,XA (Xg (XO d m) u.2):=fun u a=>by
     by_cases e:u.2=m
     ·rw[e,c4];exact hr.ok d (Zc ..)
     ·exact hr.ok _ (hcl u a e)
    have d5:Sq ((lc,m):Qm).1:=c5.1 _ s1;have sk:Sq k:=(fk.mono (b:=2*A*C) (by omega)).Gq a6 S (Zf _) a7 c2;have b5:fI o Q4 XA U left Qs R g G:=by
     refine .div (s:=(lc,m)) b6 c5 (a1 st) (a1 d5) (by rw[T];exact a1 sk) ⟨n2.RA hD r hH a8,by omega⟩ (by rw[T];exact d7) d2 (by rw[T];exact k0) (by rw[T];exact d3) ht (by rw[j];exact hf) hfi F.ld (by rw[j];exact hdv) b0 ?_;rw[T];exact g1
    refine⟨g,G,M,L,b5,g2,g3,by grind [V9],Up.trans ⟨E,q1,rfl,by omega⟩ g5,g6,g7,g8,g9,O,fun u a=> ?_,fun i' W f' h1 h2 u a=> ?_,fun φ=> ?_⟩
    ·grind
    ·rcases Y i' W f' h1 h2 u a with⟨P,k1,v,k2,k3⟩|⟨e1,m',A',k1,k2⟩
     ·rw[List.getElem?_set]at k1;by_cases c8:i=i'
      ·subst c8;rw[if_pos rfl,if_pos (by rw[hQl];exact c3)]at k1;cases k1;rcases WC _ (Zf _) n1.q8 a3.q8 k2 with⟨w,hw,e⟩|⟨w,hw,e⟩
       ·grind
       grind
      grind
     grind
    ·have h1:=Ql (q2:=X8 Q [(k,XO d m)]) b0 hfi φ;rw[VG _ _ _ _ (Zf _) n1.q8 a3.q8]at h1
     grind [XZ]
  ·
   have I:∀u∈left,u.2∈l:=fun u a=>by
    refine List.mem_of_ne_of_mem (fun e=> ?_) (hm u a);have c9:=List.mem_of_ne_of_mem j (hm t t1);have:=p1 t.2 c9;rcases t4 u a with k|k
    ·rw[k]at e;exact j e
    ·rw[e]at k;exact k.asymm d8 t2 this
   obtain⟨g,G,M,L,g1,g2,g3,g4,g5,g6,g7,g8,g9,O,X,Y,Z⟩:=EL a9 l hr.tail (by omega) J I hD r hH (by omega) fl hQl (fun Q h=>⟨(V Q h).1,(V Q h).2.1,by grind⟩) pR fR (by omega) (fun u a h=>b1 u a (Za _ h));have b9:(32:Nat)^(H+V9 c l)<=32^(H+V9 c (d::l)):=Z5 (by decide) (by simp only[V9];omega);refine⟨g,G,M,L,g1,g2,g3,by omega,g5,g6,g7,g8,g9,O,fun u a=>(X u a).imp_right fun h=>⟨Za _ h.1,h.2⟩,fun i W f h1 h2 u a=>(Y i W f h1 h2 u a).imp_right fun⟨lc,m,A,k1,k2⟩=>⟨lc,m,A,k1,Za _ k2⟩,Z⟩
structure El where
 a:Nat
 b:Nat
 t:Nat
 h:Nat
def SM (a b:Nat):Nat:=32*a+b
def UM:List El->Nat->Nat->Option El
 |[],_,_=>none
 |e::l,a,b=>bif Nat.ble e.a a&&Nat.ble e.b b then some e else UM l a b
def scan (st:List El):List (Nat×Nat)->Nat->Nat->Nat->Nat×Nat×Nat
 |[],S,H,R=>(S,H,R)
 |(a,b)::ms,S,H,R=>
  bif Nat.testBit S (SM a b)then
   match UM st a b with
   |none=>scan st ms S H (Nat.lor R (Nat.shiftLeft 1 (SM a b)))
   |some e=>scan st ms (Nat.lor S (Nat.shiftLeft e.t (SM a b-SM e.a e.b))) (H+e.h) R
  else scan st ms S H R
def Fv (e f:El):Bool:=Nat.beq (Nat.min e.a f.a) 0&&Nat.beq (Nat.min e.b f.b) 0
def F6 (e f:El):Nat:=SM (Nat.max e.a f.a) (Nat.max e.b f.b)
def jF (st:List El)(ms:List (Nat×Nat))(M:Nat)(e f:El):Option (Nat×Nat):=
 bif Fv e f then some (0,0)else
  match scan st ms (Nat.lor (Nat.shiftLeft e.t (F6 e f-SM e.a e.b)) (Nat.shiftLeft f.t (F6 e f-SM f.a f.b))) (e.h+f.h) 0 with
  |(S,H,R)=>bif Nat.beq (Nat.lor S M) M then some (H,R)else none
def jE (st:List El)(ms:List (Nat×Nat))(M:Nat)(e:El):List El->Nat->Nat->Option (Nat×Nat)
 |[],H,R=>some (H,R)
 |f::l,H,R=>match jF st ms M e f with
  |none=>none
  |some (H',R')=>jE st ms M e l (Nat.max H H') (Nat.lor R R')
def FH (st:List El)(ms:List (Nat×Nat))(M:Nat):List El->Nat->Nat->Option (Nat×Nat)
 |[],H,R=>some (H,R)
 |e::l,H,R=>match jE st ms M e (e::l) H R with
  |none=>none
  |some (H',R')=>FH st ms M l H' R'
def Vg:List (Nat×Nat)->Nat
 |[]=>0
 |(a,b)::ms=>Nat.lor (Nat.shiftLeft 1 (SM a b)) (Vg ms)
def kids (H R:Nat):List (Nat×Nat)->List El
 |[]=>[]
 |(a,b)::ms=>bif Nat.testBit R (SM a b)then⟨a,b,Nat.land R (Vg ms),H⟩::kids H R ms else kids H R ms
def FI {α:Type}(f:α->Bool):List α->Bool
 |[]=>true
 |x::l=>bif f x then FI f l else false
def pZ (ms:List (Nat×Nat))(M hm:Nat):Nat->List El->Bool
 |0,_=>false
 |n+1,st=>match FH st ms M st 0 0 with
  |none=>false
  |some (H,R)=>Nat.ble H hm&&FI (fun e=>pZ ms M hm n (st++[e])) (kids H R ms)
theorem lG {b:Type}{f:b->Bool}:∀{l},FI f l=true->∀x∈l,f x=true
 |[],_,x,h=>by cases h
 |y::l,h,x,hx=>by
  unfold FI at h;cases a:f y with
  |false=>rw[a]at h;cases h
  |true=>
   rw[a]at h;rcases Zk.1 hx with rfl|hx
   ·exact a
   ·exact lG h x hx
theorem vK (x y n):Nat.testBit (Nat.lor x y) n=(Nat.testBit x n||Nat.testBit y n):=Nat.testBit_or x y n
theorem ye (x y n):Nat.testBit (Nat.land x y) n=(Nat.testBit x n&&Nat.testBit y n):=Nat.testBit_and x y n
theorem CI (x d n):Nat.testBit (Nat.shiftLeft x d) (n+d)=Nat.testBit x n:=by simp_all
theorem IX (n):Nat.testBit (Nat.shiftLeft 1 n) n=true:=by simp_all
def Sb (x y:Nat):Prop:=∀n,Nat.testBit x n=true->Nat.testBit y n=true
theorem Sb.refl (x):Sb x x:=fun _ h=>h
theorem Sb.trans {x y z}(h:Sb x y)(k:Sb y z):Sb x z:=fun n a=>k n (h n a)
theorem Ao (x y):Sb x (Nat.lor x y):=fun n h=>by rw[vK,h];rfl
theorem GA (x y):Sb y (Nat.lor x y):=fun n h=>by grind [vK]
theorem Lk {S M}(h:Nat.beq (Nat.lor S M) M=true):Sb S M:=by grind [Ao,Zl]
theorem NP:∀{ms} {n},Nat.testBit (Vg ms) n=true↔∃p∈ms,SM p.1 p.2=n
 |[],n=>by simp[Vg]
 |(a,b)::ms,n=>by
  unfold Vg;rw[vK,Bool.or_eq_true,NP (ms:=ms)];have c:Nat.testBit (Nat.shiftLeft 1 (SM a b)) n=true↔SM a b=n:=by
   show Nat.testBit (1<<<SM a b) n=true↔_
   grind [Nat.testBit_one_eq_true_iff_self_eq_zero]
  simp_all
def wB (st:List El)(a b S:Nat):Nat:=match UM st a b with
 |none=>S
 |some e=>Nat.lor S (Nat.shiftLeft e.t (SM a b-SM e.a e.b))
def lY (st:List El):List (Nat×Nat)->Nat->List (Nat×Nat)
 |[],_=>[]
 |(a,b)::ms,S=>bif Nat.testBit S (SM a b)then(a,b)::lY st ms (wB st a b S)else lY st ms S
def hE (st:List El)(a b:Nat):Nat:=match UM st a b with
 |none=>0
 |some e=>e.h
def Ae (st:List El):List (Nat×Nat)->Nat
 |[]=>0
 |(a,b)::l=>hE st a b+Ae st l
theorem Jb (c)(a b S):Sb S (wB c a b S):=by
 unfold wB;split
 ·exact .refl _
 ·exact Ao _ _
theorem NU (c):∀ms S H R,∃g f,scan c ms S H R=(g,H+Ae c (lY c ms S),f)/\Sb S g/\Sb R f/\(∀p∈lY c ms S,Sb (wB c p.1 p.2 0) g)/\∀p∈lY c ms S,UM c p.1 p.2=none->Nat.testBit f (SM p.1 p.2)=true
 |[],S,H,R=>⟨S,R,rfl,.refl _,.refl _,(fun _ h=>by cases h),(fun _ h=>by cases h)⟩
 |(a,b)::ms,S,H,R=>by
  unfold scan lY;cases u:Nat.testBit S (SM a b)with
  |false=>
   simp only[cond_false];exact NU c ms S H R
  |true=>
   simp only[cond_true];cases i:UM c a b with
   |none=>
    obtain⟨g,f,r,k,l,m,q⟩:=NU c ms S H (Nat.lor R (Nat.shiftLeft 1 (SM a b)));have o:wB c a b S=S:=by unfold wB;rw[i]
    have s:hE c a b=0:=by unfold hE;rw[i]
    rw[o];refine⟨g,f,by grind [Ae],k,(Ao _ _).trans l,fun p d=> ?_,fun p d j=> ?_⟩
    ·rcases Zk.1 d with rfl|d
     ·unfold wB;rw[i];intro n h;simp at h
     ·exact m p d
    ·rcases Zk.1 d with rfl|d
     ·exact l _ (GA _ _ _ (IX _))
     ·exact q p d j
   |some e=>
    obtain⟨g,f,r,k,l,m,q⟩:=NU c ms (Nat.lor S (Nat.shiftLeft e.t (SM a b-SM e.a e.b))) (H+e.h) R;have o:wB c a b S=Nat.lor S (Nat.shiftLeft e.t (SM a b-SM e.a e.b)):=by unfold wB;rw[i]
    have s:hE c a b=e.h:=by unfold hE;rw[i]
    rw[o];refine⟨g,f,by grind [Ae],(Ao _ _).trans k,l,fun p d=> ?_,fun p d j=> ?_⟩
    ·rcases Zk.1 d with rfl|d
     ·unfold wB;rw[i];intro n h;refine k n (GA _ _ n ?_);simpa using h
     ·exact m p d
    grind
theorem NM (c):∀ms S,(lY c ms S).Sublist ms
 |[],_=>.slnil
 |(a,b)::ms,S=>by
  unfold lY;cases Nat.testBit S (SM a b)with
  |false=>exact(NM c ms S).cons _
  |true=>exact(NM c ms _).cons_cons _
theorem gM (c):∀ms S (p:Nat×Nat),p∈ms->Nat.testBit S (SM p.1 p.2)=true->p∈lY c ms S
 |[],_,p,h,_=>by cases h
 |(a,b)::ms,S,p,hp,hb=>by
  unfold lY;rcases Zk.1 hp with rfl|hp
  ·grind
  ·cases d:Nat.testBit S (SM a b)with
   |false=>exact gM c ms S p hp hb
   |true=>exact Za _ (gM c ms _ p hp (Jb c a b S _ hb))
theorem gn:∀{c} {a b} {e},UM c a b=some e->e∈c/\e.a<=a/\e.b<=b
 |[],_,_,_,h=>by cases h
 |f::c,a,b,e,h=>by
  unfold UM at h;cases d:(Nat.ble f.a a&&Nat.ble f.b b)with
  |false=>
   rw[d,cond_false]at h;obtain⟨g,i⟩:=gn h
   grind
  |true=>
   simp_all
theorem bt:∀c e a b,UM (c++[e]) a b=match UM c a b with
  |some f=>some f
  |none=>bif Nat.ble e.a a&&Nat.ble e.b b then some e else none
 |[],e,a,b=>rfl
 |f::c,e,a,b=>by
  simp only[ZD,UM];cases d:(Nat.ble f.a a&&Nat.ble f.b b)with
  |false=>simp only[cond_false];exact bt c e a b
  |true=>simp only[cond_true]
theorem kj {H R}:∀{ms} {e f} {a b},ms=e++(a,b)::f->Nat.testBit R (SM a b)=true->⟨a,b,Nat.land R (Vg f),H⟩∈kids H R ms
 |[],e,f,a,b,h,_=>by cases e<;>cases h
 |(c,d)::ms,e,f,a,b,h,hb=>by
  unfold kids;cases e with
  |nil=>
   grind
  |cons q e=>
   simp only[ZD,ZG]at h;have:=kj (H:=H) (R:=R) h.2 hb
   grind
def Pf (st:List El)(ms:List (Nat×Nat))(M H R:Nat)(e f:El):Prop:=∃H1 R1,jF st ms M e f=some (H1,R1)/\H1<=H/\Sb R1 R
theorem Pf.mono {i}{ms}{M H R d g}{e f}(h:Pf i ms M H R e f)(l:H<=d)(m:Sb R g):Pf i ms M d g e f:=by
 obtain⟨j,k,a,b,c⟩:=h;exact⟨j,k,a,Zy b l,c.trans m⟩
theorem fS {j}{ms}{M}{e}:∀{l} {H R a b},jE j ms M e l H R=some (a,b)->H<=a/\Sb R b/\∀f∈l,Pf j ms M a b e f
 |[],H,R,a,b,h=>by
  obtain⟨rfl,rfl⟩:=h;exact⟨Zf _,.refl _,(fun _ h=>by cases h)⟩
 |f::l,H,R,a,b,h=>by
  unfold jE at h;cases i:jF j ms M e f with
  |none=>rw[i]at h;cases h
  |some q=>
   obtain⟨c,m⟩:=q;rw[i]at h;obtain⟨o,k,n⟩:=fS h;have p:H<=Nat.max H c:=Nat.le_max_left ..;have m2:c<=Nat.max H c:=Nat.le_max_right ..;refine⟨by omega,(Ao _ _).trans k,fun g d=> ?_⟩;rcases Zk.1 d with rfl|d
   ·exact⟨c,m,i,by omega,(GA _ _).trans k⟩
   ·exact n g d
theorem oM {c}{ms}{M}:∀{l} {H R a b},FH c ms M l H R=some (a,b)->H<=a/\Sb R b/\∀e∈l,∀f∈l,Pf c ms M a b e f\/Pf c ms M a b f e
 |[],H,R,a,b,h=>by
  obtain⟨rfl,rfl⟩:=h;exact⟨Zf _,.refl _,(fun _ h=>by cases h)⟩
 |e::l,H,R,a,b,h=>by
  unfold FH at h;cases g:jE c ms M e (e::l) H R with
  |none=>rw[g]at h;cases h
  |some q=>
   obtain⟨p,r⟩:=q;rw[g]at h;obtain⟨s,n,i⟩:=fS g;obtain⟨j,d,o⟩:=oM h;refine⟨by omega,n.trans d,fun x k y m=> ?_⟩;rcases Zk.1 k with rfl|hx'
   ·exact .inl ((i y m).mono j d)
   ·rcases Zk.1 m with rfl|hy'
    ·exact .inr ((i x k).mono j d)
    ·exact o x hx' y hy'
abbrev VH (a b:Nat):P':=[a,b,0,0,0,0,0,0]
abbrev m2 (p:Nat×Nat):P':=VH p.1 p.2
theorem dh (a b c d):Ww (VH a b) (VH c d)=(Nat.ble a c&&Nat.ble b d):=by
 have key:∀x y:Nat,decide (x<=y)=Nat.ble x y:=fun x y=>by
  grind [Nat.ble_eq_true_of_le,Nat.le_of_ble_eq_true]
 simp_all [Ww]
theorem cJ (a b c d):XO (VH a b) (VH c d)=VH (a-c) (b-d):=rfl
theorem cK (a b c d):Xg (VH a b) (VH c d)=VH (a+c) (b+d):=rfl
theorem bg {a b}(d:a<=65535)(f:b<=65535):XA (VH a b):=⟨rfl,fun e c=>by
 simp only[Zk,ZQ,or_false]at c;omega⟩
structure Pg (o:M')(ms:List (Nat×Nat))(e:El)(f:I'):Prop where
 fe:∃A,Fe o A 1 (VH e.a e.b) f/\2*A<=32^e.h
 tl:∀u∈f,u.2≠VH e.a e.b->∃c d,u.2=VH c d/\c<16/\d<16/\Nat.testBit e.t (SM c d)=true
 Kk:e.a<16
 Kh:e.b<16
 ln:f.length<=100
 Mp:∀u∈f,∃p∈ms,u.2=m2 p
theorem Pg.ld {o}{ms}{e}{f}(h:Pg o ms e f):XB o f=some (1,VH e.a e.b):=by
 obtain⟨A,c,d⟩:=h.fe;exact c.ld
theorem Pg.pl {o}{ms}{e}{f}(h:Pg o ms e f):Pl f:=by
 obtain⟨A,a,b⟩:=h.fe;exact a.pl
structure Fit (o:M')(ms:List (Nat×Nat))(st:List El)(fs:S'):Prop where
 all:∀f∈fs,∃e∈st,Pg o ms e f
 no:∀a b,UM st a b=none->WW o (VH a b) fs 0=none
 yes:∀a b e,UM st a b=some e->∃(i:Nat) (f:I'),WW o (VH a b) fs 0=some i/\fs[i]? =some f/\Pg o ms e f
theorem Fit.nil (o)(ms):Fit o ms [] []:=⟨(fun _ h=>by cases h),fun _ _ _=>rfl,(fun _ _ _ h=>by cases h)⟩
theorem QA {o}{m}{r}{s}(b:XB o r=some s):∀a i,WW o m (a++[r]) i=match WW o m a i with
  |some j=>some j
  |none=>if Ww s.2 m=true then some (i+a.length)else none
 |[],i=>by
  grind [WW]
 |f::a,i=>by
  have c:=QA (m:=m) b a (i+1);have e:i+1+a.length=i+(f::a).length:=by grind
  rw[e]at c;simp only[ZD];unfold WW
  grind
theorem eZ {o}{m}:∀{a} {i j},WW o m a i=some j->i<=j/\j<i+a.length
 |[],_,_,h=>by cases h
 |f::a,i,j,h=>by
  unfold WW at h;simp only[Zj];cases b:XB o f with
  |none=>
   rw[b]at h;have:=eZ h;omega
  |some s=>
   rw[b]at h;simp only at h;split at h
   ·cases h;omega
   ·have:=eZ h;omega
theorem og:∀{d} {a b},UM d a b=none->∀e∈d,(Nat.ble e.a a&&Nat.ble e.b b)=false
 |[],_,_,_,e,h=>by cases h
 |f::d,a,b,h,e,he=>by
  unfold UM at h;cases c:(Nat.ble f.a a&&Nat.ble f.b b)with
  |true=>rw[c]at h;cases h
  |false=>
   rw[c,cond_false]at h;rcases Zk.1 he with rfl|he
   ·exact c
   ·exact og h e he
theorem Fit.snoc {o}{ms}{j}{m}(h:Fit o ms j m){e}{r}(k:Pg o ms e r):Fit o ms (j++[e]) (m++[r]):=by
 refine⟨fun f g=> ?_,fun a b c=> ?_,fun a b l c=> ?_⟩
 ·rcases ZS.1 g with g|g
  ·obtain⟨l,n,p⟩:=h.all f g
   grind
  grind
 ·rw[bt]at c;rw[QA k.ld];cases d:UM j a b with
  |some l=>rw[d]at c;cases c
  |none=>
   rw[d]at c;simp only at c;rw[h.no a b d]
   grind [dh]
 ·rw[bt]at c;rw[QA k.ld];cases d:UM j a b with
  |some e1=>
   rw[d]at c;cases c;obtain⟨i,f,n,p,s⟩:=h.yes a b l d
   grind
  |none=>
   rw[d]at c;simp only at c;rw[h.no a b d];simp only[dh];cases q:(Nat.ble e.a a&&Nat.ble e.b b)with
   |false=>rw[q]at c;cases c
   |true=>
    grind
theorem Fit.dup {o}{ms}{g}{j}(h:Fit o ms g j){e}{r}(k:Pg o ms e r)(p:e∈g):Fit o ms g (j++[r]):=by
 refine⟨fun f c=> ?_,fun a b d=> ?_,fun a b l d=> ?_⟩
 ·rcases ZS.1 c with c|c
  ·exact h.all f c
  grind
 ·rw[QA k.ld,h.no a b d];simp only[dh,og d e p,ZC,if_false]
 ·obtain⟨i,f,m,q,n⟩:=h.yes a b l d;refine⟨i,f,by rw[QA k.ld,m],?_,n⟩
  grind
structure xX (o:M')(ms:List (Nat×Nat)):Prop where
 dc:FY o (ms.map m2)
 lt:∀p∈ms,p.1<16/\p.2<16
def Ix (st:List El):P'->Nat
 |a::b::_=>hE st a b
 |_=>0
theorem oz (c):∀l,V9 (Ix c) (l.map m2)=Ae c l
 |[]=>rfl
 |(a,b)::l=>by
  simp only[Zt,V9,Ae,oz c l];rfl
theorem rg_of {o}{j}{g}{N}(s:xX o j)(x:Fit o j g N){K}(C:Sb K (Vg j)):∀ms r,j=r++ms->∀S,(∀p∈lY g ms S,Sb (wB g p.1 p.2 0) K)->Rg o N (Ix g) ((lY g ms S).map m2)
 |[],_,_,_,_=>⟨.nil,(fun _ h=>by cases h),(fun _ h=>by cases h)⟩
 |(a,b)::ms,r,y,S,hS=>by
  have v:j=(r++[(a,b)])++ms:=by rw[y];simp
  have t:FY o (((lY g ((a,b)::ms) S)).map m2):=by
   have:=s.dc
   grind [NM]
  cases hb:Nat.testBit S (SM a b)with
  |false=>
   have e:lY g ((a,b)::ms) S=lY g ms S:=by
    grind [lY]
   rw[e]at hS⊢;exact rg_of s x C ms _ v S hS
  |true=>
   have e:lY g ((a,b)::ms) S=(a,b)::lY g ms (wB g a b S):=by
    grind [lY]
   rw[e]at hS t⊢;have Y:=rg_of s x C ms _ v (wB g a b S) fun p l=>hS p (Za _ l)
   have D:(a,b)∈j:=by rw[y];simp
   obtain⟨P,Q⟩:=s.lt _ D;refine⟨t,fun n z=> ?_,fun δ q=> ?_⟩
   ·rw[Zt]at z;rcases Zk.1 z with rfl|z
    ·grind [bg]
    ·exact Y.ok n z
   ·rw[Zt]at q;rcases Zk.1 q with rfl|q
    ·cases G:UM g a b with
     |none=>exact .inl (x.no a b G)
     |some e=>
      right;obtain⟨i,f,f1,f2,M⟩:=x.yes a b e G;obtain⟨A,J,A2⟩:=M.fe;obtain⟨-,la,lb⟩:=gn G;refine⟨i,f,1,VH e.a e.b,A,f1,f2,J,?_,?_,fun u W w=> ?_⟩
      ·show 2*A<=32^hE g a b
       grind [hE]
      ·simp_all [dh]
      ·obtain⟨c,d,L,T,V,R⟩:=M.tl u W w;have en:Xg (XO (m2 (a,b)) (VH e.a e.b)) u.2=VH (a-e.a+c) (b-e.b+d):=by rw[L];rfl
       have I:Wz o (VH (a-e.a+c) (b-e.b+d)) (VH a b):=by
        have:=(J.lt W w).add (k:=XO (VH a b) (VH e.a e.b)) rfl (by rw[L];rfl) rfl
        simp_all [cJ,cK]
       have F:SM (a-e.a+c) (b-e.b+d)=SM c d+(SM a b-SM e.a e.b):=by
        unfold SM;omega
       have E:∀X,Nat.testBit (wB g a b X) (SM (a-e.a+c) (b-e.b+d))=true:=fun X=>by
        simp_all [wB]
       have H:=C _ (hS (a,b) (Zc ..) _ (E 0));obtain⟨p,l,Z⟩:=NP.1 H;obtain⟨a1,a2⟩:=s.lt p l;have B:p=(a-e.a+c,b-e.b+d):=by
        unfold SM at Z
        grind
       have a0:p∈ms:=by
        rw[y]at l;have U:=s.dc;rw[y,List.map_append,Zt]at U;have O:=(List.pairwise_append.1 U).2.2;rcases ZS.1 l with l|l
        ·exfalso;have:=O (m2 p) (ZM.2 ⟨p,l,rfl⟩) (m2 (a,b)) (Zc ..);rw[B]at this;exact this.asymm rfl rfl I
        ·rcases Zk.1 l with l|l
         ·grind [Wz.vD]
         ·exact l
       grind [gM]
    ·rcases Y.dv δ q with h1|⟨i,f,lc,m,A,h1,O,h3,h4,h5,h6⟩
     ·exact .inl h1
     grind
theorem yJ {o}{ms}{m}{v}(y:xX o ms)(z:Fit o ms m v){e f}{H R}(j:jF m ms (Vg ms) e f=some (H,R))(u:Fv e f=false)(P:e.a<16)(Q:e.b<16)(S:f.a<16)(T:f.b<16):
  ∃l,Rg o v (Ix m) l/\(∀n∈l,∃p∈ms,n=m2 p)/\l.length<=ms.length/\e.h+f.h+V9 (Ix m) l=H/\(∀c d,c<16->d<16->Nat.testBit e.t (SM c d)=true->VH (max e.a f.a-e.a+c) (max e.b f.b-e.b+d)∈l)/\(∀c d,c<16->d<16->Nat.testBit f.t (SM c d)=true->VH (max e.a f.a-f.a+c) (max e.b f.b-f.b+d)∈l)/\
   ∀n∈l,WW o n v 0=none->∃p∈ms,n=m2 p/\Nat.testBit R (SM p.1 p.2)=true:=by
 unfold jF at j;rw[u,cond_false]at j;obtain⟨C,O,G,I,V,J,K⟩:=NU m ms (Nat.lor (Nat.shiftLeft e.t (F6 e f-SM e.a e.b)) (Nat.shiftLeft f.t (F6 e f-SM f.a f.b))) (e.h+f.h) 0;generalize q:Nat.lor (Nat.shiftLeft e.t (F6 e f-SM e.a e.b)) (Nat.shiftLeft f.t (F6 e f-SM f.a f.b))=S0 at *;rw[G]at j;simp only at j;cases w:Nat.beq (Nat.lor C (Vg ms)) (Vg ms)with
 |false=>rw[w]at j;cases j
 |true=>
  rw[w,cond_true,Zb,Zq]at j;obtain⟨rfl,rfl⟩:=j;have A:=Lk w;have s:∀c d,c<32->d<32->Nat.testBit S0 (SM c d)=true->VH c d∈(lY m ms S0).map m2:=fun c d u B k=>by
   obtain⟨p,j,E⟩:=NP.1 (A _ (I _ k));obtain⟨M,N⟩:=y.lt p j;have F:p=(c,d):=by
    unfold SM at E
    grind
   grind [gM]
  refine⟨(lY m ms S0).map m2,rg_of y z A ms [] rfl S0 J,fun n r=>by
   grind [NM],?_,by rw[oz],fun c d u B k=> ?_,fun c d u B k=> ?_,fun n r W=> ?_⟩
  ·grind [NM]
  ·refine s _ _ (by omega) (by omega) ?_;rw[<-q];refine Ao _ _ _ ?_;have :SM (max e.a f.a-e.a+c) (max e.b f.b-e.b+d)=SM c d+(F6 e f-SM e.a e.b):=by
    unfold F6 SM
    grind
   simp_all [CI]
  ·refine s _ _ (by omega) (by omega) ?_;rw[<-q];refine GA _ _ _ ?_;have :SM (max e.a f.a-f.a+c) (max e.b f.b-f.b+d)=SM c d+(F6 e f-SM f.a f.b):=by
    unfold F6 SM
    grind
   simp_all [CI]
  ·obtain⟨p,j,rfl⟩:=ZM.1 r;have x:=(NM m ms S0).subset j;refine⟨p,x,rfl,K p j ?_⟩;cases L:UM m p.1 p.2 with
   |none=>rfl
   |some D=>
    obtain⟨i,g,U,-⟩:=z.yes p.1 p.2 D L
    grind
theorem On {D D' a b c}{f}(j:Q8 f)(i:W8 D' b f):∀{d acc},Q8 d->Q8 acc->W8 D a d->W8 (D*D') c acc->W8 (D*D') (c+d.length*(a*b)) (Wy acc d f)
 |[],acc,_,_,_,h=>by
  grind [Wy]
 |t::d,acc,ht,ha,hta,h=>by
  unfold Wy;have l:W8 (D*D') (a*b) (XD t.1 t.2 f):=fun x g=>by
   obtain⟨u,n,-,e⟩:=WZ g;rw[e];exact(hta t (Zc ..)).mul (i u n)
  have k:=Ud (z:=t.1) ht.head j;have m:=W8.X8 ha k h l;have:=On j i ht.tail (R3 ha k) (fun x g=>hta x (Za _ g)) m
  grind
theorem qh {D D' a b c C}{f}(n:Q8 f)(m:W8 D' b f)(g:∀{j:Nat} {l:I'},j<=C->W8 (D*D') j l->Sz l):∀{d acc},Q8 d->Q8 acc->W8 D a d->W8 (D*D') c acc->c+d.length*(a*b)<=C->dH f acc d
 |[],_,_,_,_,_,_=>trivial
 |t::d,acc,ht,ha,hta,h,hc=>by
  simp only[Zj,Nat.succ_mul]at hc;have k:W8 (D*D') (a*b) (XD t.1 t.2 f):=fun x i=>by
   obtain⟨u,p,-,e⟩:=WZ i;rw[e];exact(hta t (Zc ..)).mul (m u p)
  have o:=Ud (z:=t.1) ht.head n;exact⟨g (by omega) h,g (by omega) k,qh n m g ht.tail (R3 ha o) (fun x i=>hta x (Za _ i)) (W8.X8 ha o h k) (by omega)⟩
def gC:I'->S'->S'->I'
 |x,q::qs,f::fs=>match q with
  |[]=>gC x qs fs
  |t::ts=>gC (X8 x (WE (Wy [] (t::ts) f))) qs fs
 |x,_,_=>x
theorem Rc {q f}(b:Pl q)(a:Pl f):Pl (Wy [] q f):=⟨ik b.q8 a.q8 (fun _ h=>by cases h) b.Sk.nz a.dc .nil,pK b.q8 a.q8 (fun _ h=>by cases h)⟩
theorem N4 {q f}(c:Pl q)(b:Pl f)(a:P'->Rat):XZ (Wy [] q f) a=XZ q fun m=>XZ f fun k=>a (Xg m k):=by
 rw[cr a c.q8 b.q8 (fun _ h=>by cases h)];simp only[XZ];grind
theorem ph:∀{d a} {x},Pl x->(∀q∈d,Pl q)->(∀f∈a,Pl f)->Pl (gC x d a)
 |[],_,_,h,_,_=>h
 |_::_,[],_,h,_,_=>h
 |q::d,f::a,x,h,i,g=>by
  have c:=fun p e=>i p (Za _ e)
  have b:=fun p e=>g p (Za _ e)
  cases q with
  |nil=>show Pl (gC x d a);exact ph h c b
  |cons t j=>show Pl (gC (X8 x (WE (Wy [] (t::j) f))) d a);exact ph (h.add (Vf (Rc (i _ (Zc ..)) (g _ (Zc ..))))) c b
theorem pd (a:P'->Rat):∀{c b} {x},Pl x->(∀q∈c,Pl q)->(∀f∈b,Pl f)->XZ (gC x c b) a=XZ x a-WA c b a
 |[],_,_,_,_,_=>by grind [gC,WA]
 |_::_,[],_,_,_,_=>by grind [gC,WA]
 |q::c,f::b,x,h,j,i=>by
  have e:=fun p g=>j p (Za _ g)
  have d:=fun p g=>i p (Za _ g)
  cases q with
  |nil=>
   show XZ (gC x c b) a=_;rw[pd a h e d]
   grind [WA,XZ]
  |cons t n=>
   have k:=j _ (Zc ..);have l:=i _ (Zc ..);have m:=Vf (Rc k l);show XZ (gC (X8 x (WE (Wy [] (t::n) f))) c b) a=_;rw[pd a (h.add m) e d,VG a _ _ _ (Zf _) h.q8 m.q8,T4,N4 k l];simp only[WA];grind
theorem o7 {C a b}{H h}(c:2*a<=32^H)(d:2*b<=32^h)(e:C<=2*a*b):2*C<=32^(H+h):=by
 rw[Ye];have:=ZA c d
 grind
theorem jo {B:Xq}(F:Std B){hq hf n1 n2:Nat}(a:n2<1000)(A:n1*n2<400000)(P:n1<30000):∀{s g:S'} {O ps:N'} {X:I'} {x:PL} {D C H:Nat},VV O s->VV ps g->s.length=g.length->PQ x X->Pl X->0<D->D<=C->2*C<=32^H->W8 D C X->
  (∀Q∈s,Pl Q/\Q.length<=n1/\∃b p,0<b/\b<=p/\2*p<=32^hq/\W8 b p Q)->(∀f∈g,Pl f/\f.length<=n2/\∃b p,0<b/\b<=p/\2*p<=32^hf/\W8 b p f)->
  (∀(i:Nat) (Q f:I'),s[i]? =some Q->g[i]? =some f->∀t∈Q,∀u∈f,XA (Xg t.2 u.2))->H+g.length*(hq+hf+3)<=1200000000000->X.length+g.length*(n1*n2)<900000->
  ∃y,(XT B fun E _=>Q5 E x O ps y)/\PQ y (gC X s g)
 |[],[],_,_,X,x,D,C,H,.nil,.nil,_,px,_,_,_,_,_,_,_,_,_,_=>⟨x,XT.of fun _ _=>.nil,px⟩
 |[],_::_,_,_,_,_,_,_,_,_,_,hl,_,_,_,_,_,_,_,_,_,_,_=>by simp at hl
 |_::_,[],_,_,_,_,_,_,_,_,_,hl,_,_,_,_,_,_,_,_,_,_,_=>by simp at hl
 |Q::s,f::g,_,_,X,x,D,C,H,.cons (x:=lq) pq pqs,.cons (x:=pf) ppf pfs,hl,px,plx,hD,hDC,hH,hfr,hQ,hF,M,hsz,hlen=>by
  simp only[Zj,Nat.succ_mul,Nat.add_right_cancel_iff]at hl hsz hlen;have J:=fun q hq=>hQ q (Za _ hq)
  have G:=fun q hq=>hF q (Za _ hq)
  have n:∀(i:Nat) (Q f:I'),s[i]? =some Q->g[i]? =some f->∀t∈Q,∀u∈f,XA (Xg t.2 u.2):=fun i Q f h1 h2=>M (i+1) Q f (by grind) (by grind)
  cases w:Q with
  |nil=>
   rw[w]at pq;obtain⟨es,sq,z⟩:=pq;cases z;obtain⟨y,k1,T⟩:=jo F a A P pqs pfs hl px plx hD hDC hH hfr J G n (by omega) (by omega);exact⟨y,k1.mono fun E K e=>.skip sq e,T⟩
  |cons t ts=>
   obtain⟨U,l1,r,j,d1,d2,d3,Y⟩:=hQ Q (Zc ..);obtain⟨p2,l2,d,k,e1,e2,e3,Z⟩:=hF f (Zc ..);have N:0<Q.length:=by rw[w];simp
   have v:r*d<=Q.length*(j*k):=Zy (ZA d2 e2) (Yz _ N);have I:2*(Q.length*(j*k))<=32^(hq+hf+3):=by
    have V:Q.length<=32^3:=by
     omega
    have W:2*(j*k)<=32^(hq+hf):=by
     have:=o7 d3 e3 (Zf _)
     grind
    rw[Ye];have:=ZA W V
    grind
   have m:0<r*d:=ZV d1 e1;have S:∀{c':Nat} {l:I'},c'<=Q.length*(j*k)->W8 (r*d) c' l->Sz l:=fun h1 h2=>(h2.mono h1).RA m v I (by omega)
   have o:Q8 ([]:I'):=fun _ h=>by cases h
   have fm:=On p2.q8 Z U.q8 o Y (c:=0) (D':=d) (acc:=[]) (fun _ h=>by cases h);rw[Yb]at fm;have ms:=qh p2.q8 Z S U.q8 o Y (c:=0) (D':=d) (acc:=[]) (fun _ h=>by cases h) (by omega);have a3:=M 0 Q f rfl rfl;have sQ:Sz Q:=Y.RA d1 d2 d3 (by omega);have sf:Sz f:=Z.RA e1 e2 e3 (by omega);have a4:Q.length*f.length<=n1*n2:=ZA l1 l2;obtain⟨rb,b1,b2⟩:=Pu F pq ppf sQ sf (fun t ht=>⟨U.Sk.nz t ht,a3 t ht⟩) ms (by omega) (by omega) (by omega);have lm:=Nb Q f [];simp only[Zr,Yb]at lm;have sX:Sz X:=hfr.RA hD hDC hH (by omega);obtain⟨R,s1,s2⟩:=Qf F px b2 sX (S (Zf _) fm) (by omega) (by omega);have L:=br F b1 s1 (e:=.Xp) .nil;have pm:=Vf (Rc U p2);have fx:W8 (D*(r*d)) (2*C*(Q.length*(j*k))) (X8 X (WE (Wy [] Q f))):=by
    have V:W8 (D*(r*d)) (C*(r*d)) X:=hfr.scale _;have W:W8 (D*(r*d)) (Q.length*(j*k)*D) (WE (Wy [] Q f)):=by
     rw[ZT D];exact(fm.scale D).WE
    refine(W8.X8 plx.q8 pm.q8 V W).mono ?_;have b1:=ZE C v;have b2:Q.length*(j*k)*D<=C*(Q.length*(j*k)):=by simp_all [ZT,Zm]
    grind
   have a5:=UY _ X (WE (Wy [] Q f)) (Zf _);have ln:(WE (Wy [] Q f)).length=(Wy [] Q f).length:=by simp[WE,X2]
   obtain⟨y,k1,T⟩:=jo F a A P pqs pfs hl ⟨R,.Xl,s2⟩ (plx.add pm) (ZV hD m) (by
     have:=ZA hDC v
     grind) (o7 hH I (Zf _)) fx J G n (by omega) (by omega)
   obtain⟨es,sq,z⟩:=pq;have a0:0<es.length:=by rw[z.length];exact N
   refine⟨y,(k1.and L.Xk).mono fun E K ⟨e0,e1⟩=>.step sq a0 e1 e0,?_⟩;rw[w]at T;exact T
theorem EV {D C}{c}(d:Fr D C c)(h0:c≠0)(i:0<D):∃E:Nat,0<E/\E<=C/\Fr E D c⁻¹/\∀x,Fr D C x->Fr E C (c⁻¹*x):=by
 obtain⟨z,m,g⟩:=d;have b:(D:Rat)≠0:=by
  intro h;have :D=0:=by exact_mod_cast h
  omega
 have a:z≠0:=by
  intro h
  simp_all [Rat.mul_eq_zero]
 obtain⟨e,e1,e2⟩:=jd z a;have j:c⁻¹*c=1:=Rat.inv_mul_cancel _ h0;have key:∀y:Rat,c⁻¹*y*((z.natAbs:Nat):Rat)=(e:Rat)*(y*(D:Rat)):=fun y=>by
  grind
 refine⟨z.natAbs,Int.natAbs_pos.2 a,g,⟨e*D,?_,?_⟩,fun x f=> ?_⟩
 ·grind [YF]
 ·grind
 ·obtain⟨y,k,l⟩:=f;refine⟨e*y,?_,by grind⟩
  grind
theorem Ni (o)(z):∀a b,V7 o (z*b.1,b.2) (X2 z a)=(z*(V7 o b a).1,(V7 o b a).2)
 |[],_=>rfl
 |t::a,b=>by
  have e:X2 z (t::a)=(z*t.1,t.2)::X2 z a:=rfl;rw[e];unfold V7;simp only;split
  ·exact Ni o z a t
  ·exact Ni o z a b
theorem Nh (o)(z){f}{s}(h:XB o f=some s):XB o (X2 z f)=some (z*s.1,s.2):=by
 cases f with
 |nil=>cases h
 |cons t a=>
  have e:X2 z (t::a)=(z*t.1,t.2)::X2 z a:=rfl
  grind [XB,Ni]
def Ri (o:M')(R:I'):I':=match XB o R with
 |none=>R
 |some s=>X2 s.1⁻¹ R
structure IC (o:M')(fs:S')(c:P'->Nat)(l:J')(H:Nat)(X R:I')(Qs:S'):Prop where
 pl:Pl R
 mem:∀u∈R,u.2∈l/\WW o u.2 fs 0=none
 eq:∀φ,XZ X φ=XZ R φ+WA Qs fs φ
 ql:Qs.length=fs.length
 qp:∀Q∈Qs,Pl Q
 up:∀(i:Nat) (Q f:I'),Qs[i]? =some Q->fs[i]? =some f->∀u∈Q,∃lc m A,Fe o A lc m f/\Xg u.2 m∈l
 sz:∃D C,0<D/\D<=C/\2*C<=32^(H+V9 c l)/\W8 D C R
theorem tA {z}(b:z≠0){f}(h:Pl f):Pl (X2 z f):=by
 have e:X2 z f=XD z zM f:=by
  unfold X2 XD;exact List.map_congr_left fun t a=>by rw[Qk (h.q8 t a)]
 rw[e];exact Ve b rfl h
theorem T8 {z}{f}{x}(h:x∈X2 z f):∃t∈f,x.2=t.2/\x.1=z*t.1:=by grind [X2]
theorem cG {o}{R}{D C h}(p:Pl R)(n:0<D)(a:D<=C)(f:2*C<=32^h)(g:h<=1200000000000)(b:W8 D C R)(A:R.length<50000){s}(r:XB o R=some s):Fe o C 1 s.2 (X2 s.1⁻¹ R)/\Sq s.1/\Sq s.1⁻¹:=by
 obtain⟨j,B,k,F⟩:=Xy p r;obtain⟨E,c,d,q,l⟩:=EV (b s j) k n;have z:s.1⁻¹*s.1=1:=Rat.inv_mul_cancel _ k;have m:W8 E C (X2 s.1⁻¹ R):=fun x y=>by
  obtain⟨t,v,-,e⟩:=T8 y;rw[e];exact l _ (b t v)
 have i:∀x:Rat,(1:Rat)⁻¹*x=x:=fun x=>by
  grind
 refine⟨⟨tA (bo k) p,?_,⟨E,c,d,?_,fun u w=>by rw[i];exact m u w⟩,m.RA c d f g,by grind [X2]⟩,(b s j).Gq n a (Zf _) f g,q.Gq c d a f g⟩
 ·grind [Nh]
 ·have:=l _ (b s j)
  grind
section
variable {B:Xq}{o:M'}{lo:PL}
theorem nv (S:Std B)(so:SA lo o)(ho:Vq o)(a4:o.length<1000000)(hv:Xv B 22 [.one lo] (.one (.bool true))){d:N'}{a:S'}(k:VV d a)(Z:a.length<=40){hf:Nat}
  (Y:∀f∈a,Pl f/\f.length<=200/\∃v n,0<v/\v<=n/\2*n<=32^hf/\W8 v n f) {c:P'->Nat} {l:J'} (J:Rg o a c l) (a9:l.length<=100) (a3:∀(m:P') (f:I') (lc:Rat) (q A:_),f∈a->L8 q->Fe o A lc m f->Xg q m∈l->∀u∈f,XA (Xg q u.2))
  {x:PL} {X:I'} (px:PQ x X) (b:Pl X) (hm:∀u∈X,u.2∈l) {D C H:Nat} (hD:0<D) (F:D<=C) (hC:2*C<=32^H) (fr:W8 D C X) (b1:H+101*(H+V9 c l+hf+3)<=1200000000000):
  ∃r R g,(XT B fun E _=>(∀h,h 0=some (Ug d.length d)->WX E h 84 [.agg [.p x,.p .Xp],.one (.own 0 d.length 0 d.length),La4 lo]=some ⟨.agg [.p r,.p .Xp],[],[(0,Ug d.length d)],[0]⟩)/\
   ∀h,WX E h 84 [.agg [.p x,.p .Xp],La4 (.Xl (Ue d)),La4 lo]=some ⟨.agg [.p r,.p .Xp],[],[],[]⟩)/\PQ r (Ri o R)/\IC o a c l H X R g:=by
 have j:H+V9 c l<=1200000000000:=by omega
 obtain⟨g,R,v,n,g1,K,M,N,g5,g6,w,O,V,a6,U,a7,a8⟩:=EL (NN:=l.length+1) (by omega) l J (by omega) b hm hD F hC j fr (Qs:=List.replicate a.length []) (by simp) (fun Q e=>by
  rw[(Yt.1 e).2];exact⟨Pl.nil,(fun _ h=>by cases h),by simp⟩) Pl.nil (fun _ h=>by cases h) (by simp) (fun _ h=>by cases h)
 have a0:∀f∈a,f.length<100000:=fun f hf=>by grind
 have b0:d.length=a.length:=k.length;obtain⟨I,lr,k1,k2,k3,k4⟩:=HO S so ho a4 (L:=.Xl (Xf d)) .Xl k a0 (by omega) hv px g1;have up:∀(i:Nat) (Q f:I'),g[i]? =some Q->a[i]? =some f->∀u∈Q,∃lc m A,Fe o A lc m f/\Xg u.2 m∈l:=fun i Q f P W u z=>by
  grind
 have T:IC o a c l H X R g:=⟨O,fun u z=>(U u z).resolve_left (fun h=>by cases h),fun φ=>by
  grind [Qn,XZ],g6,fun Q e=>(w Q e).1,up,v,n,K,M,N,V⟩
 obtain⟨y,e1,e2⟩:=jo S (hq:=H+V9 c l) (hf:=hf) (n1:=100) (n2:=200) (by omega) (by omega) (by omega) k2 k g6 px b hD F hC fr (fun Q e=>⟨(w Q e).1,by grind,v,n,K,M,N,(w Q e).2.1⟩) Y (fun i Q f P W t ht u z=>by
   obtain⟨lc,m,A,a1,a2⟩:=up i Q f P W t ht;exact a3 m f lc t.2 A (Zh W) ((w Q (Zh P)).1.q8 t ht) a1 a2 u z) (by
   have :a.length*(H+V9 c l+hf+3)<=40*(H+V9 c l+hf+3):=Zm _ Z;omega) (by
   have P:=Pw J.dc J.l8 b hm;omega)
 have a5:gC X g a=R:=by
  refine Ph.ext (ph b (fun Q e=>(w Q e).1) (fun f hf=>(Y f hf).1)).dc O.dc fun m=> ?_
  rw[Wm,Wm,pd _ b (fun Q e=>(w Q e).1) (fun f hf=>(Y f hf).1),T.eq];grind
 rw[a5]at e2;have lR:R.length<=l.length:=Pw J.dc J.l8 O fun u z=>(T.mem u z).1
 have b2:Sz R:=V.RA K M N j;have G:∃r,Xv B 89 [.agg [y,.Xp],.one lo] (.agg [r,.Xp])/\PQ r (Ri o R):=by
  unfold Ri;cases hs:XB o R with
  |none=>
   grind [Vy,uC]
  |some s=>
   obtain⟨-,q1,q2⟩:=cG O K M N j V (by omega) hs
   grind [kC,Xy]
 obtain⟨r,m1,m2⟩:=G;have v1:=uy S (Q:=.Xl (Xf I)) .Xl (by omega) k1 e1 m1;have v2:=uv S (L:=.Xl (Ue d)) .Xl (Q:=.Xl (Xf I)) .Xl (by omega) k1 e1 m1;exact⟨r,R,g,v1.and v2,m2,T⟩
end
theorem dj (c)(p:P'->Bool):∀l,V9 c (l.filter p)<=V9 c l
 |[]=>Zf _
 |n::l=>by
  have a:=dj c p l;rw[List.filter_cons];split
  ·simp only[V9];omega
  ·simp only[V9];omega
theorem Rg.below {o}{p}{c}{l}(h:Rg o p c l){L}(s:L8 L):Rg o p c (l.filter fun n=>decide (Wz o n L)):=by
 refine⟨h.dc.sublist List.filter_sublist,fun n t=>h.ok n (Yh.1 t).1,fun j g=> ?_⟩;obtain⟨k,r⟩:=Yh.1 g;rcases h.dv j k with e|⟨i,f,lc,m,A,e1,e2,e3,e4,e5,e6⟩
 ·exact .inl e
 ·refine .inr ⟨i,f,lc,m,A,e1,e2,e3,e4,e5,fun u b a=>Yh.2 ⟨e6 u b a,decide_eq_true ?_⟩⟩;have d:=h.l8 j k;have q:=Va d e3.m8;have:=(e3.lt b a).add q (e3.pl.q8 u b) e3.m8;rw[XL (XO j m) m,WD (e3.m8.trans d.symm) e5]at this;exact this.trans (Wo q (e3.pl.q8 u b)) d s (of_decide_eq_true r)
def Ig (f g:I')(s t:P'):I':=X8 (WE (XD (-1) s f)) (WE (XD 1 t g))
theorem jK:(1:Rat)≠0:=by decide
theorem cH:(-1:Rat)≠0:=by decide
theorem CS {f g}{s t}(a:Pl f)(b:Pl g)(c:L8 s)(d:L8 t):Pl (Ig f g s t):=(Vf (Ve cH c a)).add (Vf (Ve jK d b))
theorem CR {f g}{s t}(b:Pl f)(c:Pl g)(d:L8 s)(e:L8 t)(a:P'->Rat):XZ (Ig f g s t) a=(XZ f fun n=>a (Xg s n))-XZ g fun n=>a (Xg t n):=by
 unfold Ig;rw[VG a _ _ _ (Zf _) (Vf (Ve cH d b)).q8 (Vf (Ve jK e c)).q8,T4,T4,Ux,Ux];grind
theorem I3 {f g}{s t}(k:Pl f)(l:Pl g)(m:L8 s)(n:L8 t){D A E C}(h:W8 D A f)(i:W8 E C g)(hE:E<=C)(j:D<=A):W8 (D*E) (2*A*C) (Ig f g s t):=by
 have c:W8 (D*E) (A*E) (WE (XD (-1) s f)):=by
  refine W8.WE fun x b=> ?_
  obtain⟨u,a,-,e⟩:=WZ b;have :(-1:Rat)*u.1= -u.1:=by grind
  rw[e,this];exact(Fr.scale (h u a)).neg
 have d:W8 (D*E) (C*D) (WE (XD 1 t g)):=by
  refine W8.WE fun x b=> ?_
  obtain⟨u,a,-,e⟩:=WZ b;rw[e,Rat.one_mul,ZT D];exact Fr.scale (i u a)
 refine(W8.X8 (Vf (Ve cH m k)).q8 (Vf (Ve jK n l)).q8 c d).mono ?_;have o:=ZE A hE;have p:C*D<=A*C:=by rw[ZT];exact Zm _ j
 have q:2*A*C=A*C+A*C:=by rw[Yn,Nat.two_mul]
 omega
theorem Gr {o}{f g}{s t m n L}(d:Pl f)(i:Pl g)(l:L8 s)(p:L8 t)(M:XB o f=some (1,m))(N:XB o g=some (1,n))(q:Xg s m=L)(r:Xg t n=L):∀u∈Ig f g s t,Wz o u.2 L/\((∃x∈f,x.2≠m/\u.2=Xg s x.2)\/∃x∈g,x.2≠n/\u.2=Xg t x.2):=by
 intro u z;have G:=CS d i l p;have K:=G.Sk.U4 u z;obtain⟨I,C,O,D⟩:=Xy d M;obtain⟨J,E,P,F⟩:=Xy i N;have H:TD (Ig f g s t) L=0:=by
  rw[Wm,CR d i l p,aV d I (φ:=fun k=>WJ L (Xg s k)) fun x a=> ?_,aV i J (φ:=fun k=>WJ L (Xg t k)) fun x a=> ?_]
  ·show WJ L (Xg s m)*1-WJ L (Xg t n)*1=0;rw[q,r];grind
  ·rcases F x a with e|e
   ·exact .inl e
   ·right;have:=e.add p (i.q8 x a) E;rw[r]at this;show WJ L (Xg t x.2)=0;unfold WJ;rw[if_neg this.ne]
  ·rcases D x a with e|e
   ·exact .inl e
   ·right;have:=e.add l (d.q8 x a) C;rw[q]at this;show WJ L (Xg s x.2)=0;unfold WJ;rw[if_neg this.ne]
 have j:u.2≠L:=fun e=>G.Sk.nz u z (by rw[<-K,e,H])
 rcases WC _ (Zf _) (Vf (Ve cH l d)).q8 (Vf (Ve jK p i)).q8 z with⟨v,A,e⟩|⟨v,A,e⟩
 ·obtain⟨w,B,e2,-⟩:=RF A;obtain⟨x,a,y,-⟩:=WZ B;have c:u.2=Xg s x.2:=by rw[<-e,e2,y]
  have b:x.2≠m:=fun h=>j (by rw[c,h,q])
  rcases D x a with h|h
  ·exact absurd (congrArg Prod.snd h) b
  ·have:=h.add l (d.q8 x a) C;rw[q,<-c]at this;exact⟨this,.inl ⟨x,a,b,c⟩⟩
 ·obtain⟨w,B,e2,-⟩:=RF A;obtain⟨x,a,y,-⟩:=WZ B;have c:u.2=Xg t x.2:=by rw[<-e,e2,y]
  have b:x.2≠n:=fun h=>j (by rw[c,h,r])
  rcases F x a with h|h
  ·exact absurd (congrArg Prod.snd h) b
  ·have:=h.add p (i.q8 x a) E;rw[r,<-c]at this;exact⟨this,.inr ⟨x,a,b,c⟩⟩
section
variable {B:Xq}{o:M'}{lo:PL}
theorem I1:Sq (1:Rat):=by
 have h:(Xe 1).length=1:=Sg.2 (by decide);unfold Sq;show(Xe 1).length<_/\(Xe 1).length<_;omega
theorem Hr (h:Std B)(Y:SA lo o)(R:Vq o)(l:o.length<1000000){p q}{f g}(U:PQ p f)(V:PQ q g)(lf:f.length<=200)(lg:g.length<=200)(W:Sz f)(X:Sz g){c d}{m n}(hf:XB o f=some (c,m))(hg:XB o g=some (d,n))(a:XA m)(b:XA n)
  (D:∀u∈f,XA (Xg (XO (XM m n) m) u.2)) (E:∀u∈g,XA (Xg (XO (XM m n) n) u.2)):∃y,Xv B 88 [.agg [p,.Xp],.agg [q,.Xp],.one lo] (.agg [y,.Xp])/\PQ y (Ig f g (XO (XM m n) m) (XO (XM m n) n)):=by
 have h1:=Rk h Y R l U (by omega) hf;have h2:=Rk h Y R l V (by omega) hg;have h3:=Di h a b;have i:=uc a b;have h4:=jl h i a (TC _ _ (a.1.trans b.1.symm));have h5:=jl h i b (Sv _ _ (a.1.trans b.1.symm));have r:=Tf i a;have s:=Tf i b;obtain⟨w,w1,w2⟩:=OZ h (x:=.negSucc 0) (by unfold IB;decide);obtain⟨v,v1,Z⟩:=OZ h (x:=.ofNat 1) (by unfold IB;decide);obtain⟨H,I,J,K,rfl⟩:=w2.len;obtain⟨L,M,N,O,rfl⟩:=Z.len;have G:Rw [.bool H,I,.bool J,K] (-1):=w2;have F:Rw [.bool L,M,.bool N,O] 1:=Z;have p1:PQ (.Xl [.bool H::I::.bool J::K::mo (XO (XM m n) m)]) [((-1:Rat),XO (XM m n) m)]:=⟨_,.Xl,.cons (Vn.mk G r) .nil⟩;have p2:PQ (.Xl [.bool L::M::.bool N::O::mo (XO (XM m n) n)]) [((1:Rat),XO (XM m n) n)]:=⟨_,.Xl,.cons (Vn.mk F s) .nil⟩;have k:Sz (XD (-1) (XO (XM m n) m) f):=fun x j=>by
  obtain⟨u,C,-,e⟩:=WZ j;have :(-1:Rat)*u.1= -u.1:=by grind
  rw[e,this];exact(W u C).neg
 have z:Sz (XD 1 (XO (XM m n) n) g):=fun x j=>by
  obtain⟨u,C,-,e⟩:=WZ j;rw[e,Rat.one_mul];exact X u C
 obtain⟨r1,c1,P⟩:=Pu h p1 U (fun x j=>by rw[Yj.1 j];exact yj) W (fun t A=>by
  rw[Yj.1 A];exact⟨cH,D⟩) ⟨Sz.nil,k,trivial⟩ (by simp) (by omega) (by simp;omega)
 rw[Ol]at P;obtain⟨S,d1,Q⟩:=Qf h (lp:=.Xp) (ts:=[]) ⟨[],.nil,.nil⟩ P Sz.nil k (by simp) (by simp[XD];omega);rw[X5]at Q;obtain⟨r2,e1,e2⟩:=Pu h p2 V (fun x j=>by rw[Yj.1 j];exact I1) X (fun t A=>by
  rw[Yj.1 A];exact⟨jK,E⟩) ⟨Sz.nil,z,trivial⟩ (by simp) (by omega) (by simp;omega)
 rw[Ol]at e2;have ln:(WE (XD (-1) (XO (XM m n) m) f)).length=f.length:=by simp[WE,X2,XD]
 obtain⟨T,f1,f2⟩:=Qf h (lp:=.Xl S) ⟨S,.Xl,Q⟩ e2 k.neg z (by show(WE (XD (-1) (XO (XM m n) m) f)).length<1000000;omega) (by simp[XD];omega);have h6:=br h c1 d1 (e:=.Xl []) .Xl;have h7:=br h e1 f1 (e:=.Xp) .nil;exact⟨.Xl T,xh h a.1 b.1 i.1 r.1 s.1 h1 h2 h3 h4 h5 w1 v1 h6 h7,⟨T,.Xl,f2⟩⟩
end
theorem cc {o:M'}{b:S'}{P:P'->Prop}:∀{Qs fs:S'},(∀f∈fs,f∈b)->(∀(i:Nat) (Q f:I'),Qs[i]? =some Q->fs[i]? =some f->∀u∈Q,∃lc m A,Fe o A lc m f/\L8 u.2/\P (Xg u.2 m))->UP o b P (WA Qs fs)
 |[],_,_,_=>.zero fun _=>by simp only[WA]
 |_::_,[],_,_=>.zero fun _=>by simp only[WA]
 |Q::Qs,f::fs,hm,h=>by
  have c:=cc (Qs:=Qs) (fs:=fs) (fun g j=>hm g (Za _ j)) fun i Q f z B=>h (i+1) Q f (by grind) (by grind)
  have h0:=h 0 Q f rfl rfl;cases e:Q with
  |nil=>exact c.congr fun r=>by grind [WA,XZ]
  |cons t p=>
   rw[e]at h0;obtain⟨lc,m,A,a,v,w⟩:=h0 t (Zc ..);have n:=UP.prod (P:=P) (hm f (Zc ..)) a.ld (q:=t::p) fun u k=>by
    obtain⟨l,C,s,d,x,y⟩:=h0 u k;have:=d.ld;rw[a.ld]at this
    grind
   exact(n.plus c).congr fun r=>by simp only[WA]
theorem kh {b}:∀{m n},m.length=n.length->(∀x∈Xg m n,x<=b)->∀x∈m,x<=b
 |[],_,_,_,x,h=>by cases h
 |_::_,[],h,_,_,_=>by simp at h
 |a::m,c::n,h,k,x,hx=>by
  have e:Xg (a::m) (c::n)=(a+c)::Xg m n:=rfl;rw[e]at k;rcases Zk.1 hx with rfl|hx
  ·grind [Zc]
  ·exact kh (by simpa using h) (fun y d=>k y (Za _ d)) x hx
structure IE (o:M')(ms:List (Nat×Nat))(w:P'):Prop where
 bx:xX o ms
 ml:ms.length<=100
 w8:w.length=8
 wp:∀x∈w,0<x
 hw:∀p∈ms,∀c d,Wz o (m2 p) (VH c d)->Wu w (m2 p)<=Wu w (VH c d)
theorem Pg.size {o}{ms}{e}{f}(h:Pg o ms e f):∃D A,0<D/\D<=A/\2*A<=32^e.h/\W8 D A f:=by
 obtain⟨A,F,c⟩:=h.fe;obtain⟨D,a,b,d,g⟩:=F.cf;refine⟨D,A,a,b,c,fun u i=> ?_⟩
 grind
theorem Pg.wt {o}{ms}{w}(G:IE o ms w){e}{f}(h:Pg o ms e f):∀u∈f,Wu w u.2<=Wu w (VH e.a e.b):=fun u d=>by
 obtain⟨A,F,j⟩:=h.fe;by_cases c:u.2=VH e.a e.b
 ·grind
 ·obtain⟨p,i,g⟩:=h.Mp u d;have:=F.lt d c;rw[g]at this⊢;exact G.hw p i _ _ this
theorem Fu (e f):Fv e f=Fv f e:=by grind [Fv]
theorem DZ {o}{ms}{j}{n}(B:xX o ms)(G:Fit o ms j n){e f}{H R}(M:Pf j ms (Vg ms) H R e f\/Pf j ms (Vg ms) H R f e)(I:Fv e f=false)(C:e.a<16)(D:e.b<16)(E:f.a<16)(F:f.b<16):
  ∃l,Rg o n (Ix j) l/\(∀g∈l,∃p∈ms,g=m2 p)/\l.length<=ms.length/\e.h+f.h+V9 (Ix j) l<=H/\(∀c d,c<16->d<16->Nat.testBit e.t (SM c d)=true->VH (max e.a f.a-e.a+c) (max e.b f.b-e.b+d)∈l)/\(∀c d,c<16->d<16->Nat.testBit f.t (SM c d)=true->VH (max e.a f.a-f.a+c) (max e.b f.b-f.b+d)∈l)/\
   ∀g∈l,WW o g n 0=none->∃p∈ms,g=m2 p/\Nat.testBit R (SM p.1 p.2)=true:=by
 rcases M with⟨J,K,q,L,r⟩|⟨J,K,q,L,r⟩
 ·obtain⟨l,v,u,w,N,k,m,x⟩:=yJ B G q I C D E F;refine⟨l,v,u,w,by omega,k,m,fun g i s=> ?_⟩;obtain⟨p,y,z,A⟩:=x g i s;exact⟨p,y,z,r _ A⟩
 ·obtain⟨l,v,u,w,N,k,m,x⟩:=yJ B G q (by rw[Fu];exact I) E F C D;rw[Nat.max_comm f.a,Nat.max_comm f.b]at k m;refine⟨l,v,u,w,by omega,m,k,fun g i s=> ?_⟩;obtain⟨p,y,z,A⟩:=x g i s;exact⟨p,y,z,r _ A⟩
theorem oW {k}(h:L8 k):Xg zM k=k:=by grind [Qk]
section
variable {B:Xq}{o:M'}{lo:PL}{ms:List (Nat×Nat)}{w:P'}
theorem AX (hB:Std B)(so:SA lo o)(ho:Vq o)(b9:o.length<1000000)(hv:Xv B 22 [.one lo] (.one (.bool true)))(G:IE o ms w){st:List El}{ps:N'}{W:S'}(ft:Fit o ms st W)(e6:VV ps W)(e3:W.length<=40){hm:Nat}(a9:∀e∈st,e.h<=hm)(g1:hm<=1000000){H R:Nat}(hH:H<=hm)
  {p q:PL} {f g:I'} (pf:PQ p f) (qg:PQ q g) (hf:f∈W) (hg:g∈W) {e j:El} (I:Pg o ms e f) (J:Pg o ms j g) (d9:e∈st) (b6:j∈st) (a8:Pf st ms (Vg ms) H R e j\/Pf st ms (Vg ms) H R j e) (hc:Fv e j=false):
  ∃s r R0,Xv B 88 [.agg [p,.Xp],.agg [q,.Xp],.one lo] (.agg [s,.Xp])/\(XT B fun E _=>∀h,h 0=some (Ug ps.length ps)->WX E h 84 [.agg [.p s,.p .Xp],.one (.own 0 ps.length 0 ps.length),La4 lo]=some ⟨.agg [.p r,.p .Xp],[],[(0,Ug ps.length ps)],[0]⟩)/\PQ r R0/\
   (R0=[]\/∃e2∈kids H R ms,Pg o ms e2 R0)/\∀y,(∀f∈W,f∈y)->(R0≠[]->R0∈y)->(∀f∈y,Pl f)->SB o w y f g (1,VH e.a e.b) (1,VH j.a j.b):=by
 obtain⟨l,e8,a6,e7,g2,g4,g5,g3⟩:=DZ G.bx ft a8 hc I.Kk I.Kh J.Kk J.Kh;obtain⟨A,f2,hA⟩:=I.fe;obtain⟨A',f3,f6⟩:=J.fe;obtain⟨D1,C1,d1,d2,d3,d4⟩:=I.size;obtain⟨D2,C2,c1,c2,c3,c4⟩:=J.size;have em:=I.Kk;have f4:=I.Kh;have gm:=J.Kk;have f5:=J.Kh;have f8:=a9 e d9;have f9:=a9 j b6;obtain⟨L,hL⟩:∃L,L=VH (max e.a j.a) (max e.b j.b):=⟨_,rfl⟩;have d7:L8 L:=by rw[hL];rfl
 have X:XM (VH e.a e.b) (VH j.a j.b)=L:=hL.symm;have s8:L8 (XO L (VH e.a e.b)):=by rw[hL];rfl
 have t8:L8 (XO L (VH j.a j.b)):=by rw[hL];rfl
 have es:Xg (XO L (VH e.a e.b)) (VH e.a e.b)=L:=by grind [cJ,cK,Nat.sub_add_cancel,Nat.le_max_left]
 have et:Xg (XO L (VH j.a j.b)) (VH j.a j.b)=L:=by grind [cJ,cK,Nat.sub_add_cancel,Nat.le_max_right]
 have rg:=e8.below d7;have d8:=dj (Ix st) (fun n=>decide (Wz o n L)) l;have a4:(l.filter fun n=>decide (Wz o n L)).length<=100:=Zy (List.length_filter_le ..) (Zy e7 G.ml);generalize g0:(l.filter fun n=>decide (Wz o n L))=l' at *;have T:∀n∈l',n∈l/\Wz o n L:=fun n hn=>by
  grind
 have c6:∀n,n∈l->Wz o n L->n∈l':=fun n h1 M=>by grind
 have Z:=I.pl;have a0:=J.pl;have sf:Sz f:=d4.RA d1 d2 d3 (by omega);have sg:Sz g:=c4.RA c1 c2 c3 (by omega);have c8:∀(f:I') (e:El) (k:Nat),Pg o ms e f->∀(a b:Nat),a<16->b<16->∀u∈f,XA (Xg (VH a b) u.2):=fun f e k e0 a b ha hb u z=>by
  obtain⟨p,hp,ep⟩:=e0.Mp u z;obtain⟨x1,x2⟩:=G.bx.lt p hp;rw[ep];show XA (VH (a+p.1) (b+p.2))
  grind [bg]
 have lf:=I.ln;have lg:=J.ln;have c5:=Hr hB so ho b9 pf qg (by omega) (by omega) sf sg I.ld J.ld (bg (by omega) (by omega)) (bg (by omega) (by omega)) (by
  rw[X,hL];exact c8 f e 0 I (max e.a j.a-e.a) (max e.b j.b-e.b) (by omega) (by omega)) (by
  rw[X,hL];exact c8 g j 0 J (max e.a j.a-j.a) (max e.b j.b-j.b) (by omega) (by omega))
 rw[X]at c5;obtain⟨s,c9,e9⟩:=c5;have Ck:=CS Z a0 s8 t8;have c7:∀u∈Ig f g (XO L (VH e.a e.b)) (XO L (VH j.a j.b)),u.2∈l':=fun u z=>by
  obtain⟨h1,M⟩:=Gr Z a0 s8 t8 I.ld J.ld es et u z;refine c6 _ ?_ h1;rcases M with⟨x,Y,F,eu⟩|⟨x,Y,F,eu⟩
  ·obtain⟨c,d,ex,b4,b5,b3⟩:=I.tl x Y F
   grind [cJ,cK]
  ·obtain⟨c,d,ex,b4,b5,b3⟩:=J.tl x Y F
   grind [cJ,cK]
 have d0:=I3 Z a0 s8 t8 d4 c4 c2 d2;have d5:D1*D2<=2*C1*C2:=by
  have:=ZA d2 c2
  grind
 obtain⟨r,O,Qs,v,pr,U⟩:=nv hB so ho b9 hv e6 e3 (hf:=hm) (fun f hf=>by
  obtain⟨e1,h1,M⟩:=ft.all f hf;obtain⟨D',C',k1,k2,k3,k4⟩:=M.size;have:=M.ln;have f1:(32:Nat)^e1.h<=32^hm:=Z5 (by decide) (a9 e1 h1);exact⟨M.pl,by omega,D',C',k1,k2,by omega,k4⟩) rg a4 (fun m f lc q A hf c0 d6 a7 u z=>by
  obtain⟨e1,h1,M⟩:=ft.all f hf;obtain⟨p,hp,ep⟩:=a6 _ (T _ a7).1;obtain⟨x1,x2⟩:=G.bx.lt p hp;have hq:∀x∈q,x<=15:=kh (n:=m) (c0.trans d6.m8.symm) (by
   rw[ep];intro x Y;simp only[Zk,ZQ,or_false]at Y;omega)
  obtain⟨p2,e5,b0⟩:=M.Mp u z;obtain⟨y1,y2⟩:=G.bx.lt p2 e5;refine⟨Wo c0 (by rw[b0];rfl),fun x Y=> ?_⟩;have:=vl (e:=15) (f:=15) hq (n:=u.2) (by
   rw[b0];intro x Y;simp only[Zk,ZQ,or_false]at Y;omega) x Y
  omega) e9 Ck c7 (ZV d1 c1) d5 (o7 d3 c3 (Zf _)) d0 (by omega)
 obtain⟨D3,C3,z1,z2,z3,z4⟩:=U.sz;have hz:e.h+j.h+V9 (Ix st) l'<=H:=by omega
 have z5:2*C3<=32^H:=Zy z3 (Z5 (by decide) hz);have lR:O.length<=100:=Zy (Pw rg.dc rg.l8 U.pl fun u z=>(U.mem u z).1) a4;have a5:∀y,(∀f∈W,f∈y)->UP o y (fun n=>L8 n/\Wu w n<=Wu w L/\Wz o n L) (WA Qs W):=fun y S=>cc S fun i Q f h1 M u z=>by
  obtain⟨lc,m,A,a1,a2⟩:=U.up i Q f h1 M u z;obtain⟨b1,V⟩:=T _ a2;obtain⟨p,hp,ep⟩:=a6 _ b1;refine⟨lc,m,A,a1,(U.qp Q (Zh h1)).q8 u z,by rw[ep];rfl,?_,V⟩;rw[ep]at V⊢;rw[hL]at V⊢;exact G.hw p hp _ _ V
 have a3:∀y,UP o y (fun n=>L8 n/\Wu w n<=Wu w L/\Wz o n L) (fun φ=>XZ O φ)->UP o y (fun n=>L8 n/\Wu w n<=Wu w L/\Wz o n L) (WA Qs W)->SB o w y f g (1,VH e.a e.b) (1,VH j.a j.b):=fun y r1 r2=>by
  unfold SB;show UP o y (fun n=>L8 n/\Wu w n<=Wu w (XM (VH e.a e.b) (VH j.a j.b))/\Wz o n (XM (VH e.a e.b) (VH j.a j.b))) fun φ=>1*(XZ f fun n=>φ (Xg (XO (XM (VH e.a e.b) (VH j.a j.b)) (VH e.a e.b)) n))-1*XZ g fun n=>φ (Xg (XO (XM (VH e.a e.b) (VH j.a j.b)) (VH j.a j.b)) n)
  rw[X];refine(r1.plus r2).congr fun φ=> ?_
  rw[<-U.eq,CR Z a0 s8 t8];grind
 cases hR:XB o O with
 |none=>
  have hn:=Vy hR;have em:Ri o O=[]:=by grind [Ri]
  rw[em]at pr;refine⟨s,r,[],c9,v.mono fun E K h=>h.1,pr,.inl rfl,fun y S _ _=>a3 y ?_ (a5 y S)⟩;rw[hn];exact .zero fun φ=>by simp only[XZ]
 |some N=>
  obtain⟨q1,q2,q3,q4⟩:=Xy U.pl hR;have em:Ri o O=X2 N.1⁻¹ O:=by unfold Ri;rw[hR]
  rw[em]at pr;obtain⟨w1,w2,w3⟩:=cG U.pl z1 z2 z5 (by omega) z4 (by omega) hR;have C:∀u∈O,∃p∈ms,u.2=m2 p/\Nat.testBit R (SM p.1 p.2)=true:=fun u z=>by
   obtain⟨x1,x2⟩:=U.mem u z
   grind
  obtain⟨p0,p1,p2,p3⟩:=C N q1;obtain⟨g6,f0,D⟩:=List.append_of_mem p1;have b7:=kj (H:=H) (R:=R) (a:=p0.1) (b:=p0.2) D p3;refine⟨s,r,X2 N.1⁻¹ O,c9,v.mono fun E K h=>h.1,pr,.inr ⟨_,b7,⟨⟨C3,by grind,z5⟩,fun u z F=> ?_,(G.bx.lt p0 p1).1,(G.bx.lt p0 p1).2,by grind [X2],fun u z=> ?_⟩⟩,fun y S a7 e4=>a3 y ?_ (a5 y S)⟩
  ·obtain⟨t,ht,e1,-⟩:=T8 z;obtain⟨p4,p5,p6,p7⟩:=C t ht;have b8:Wz o t.2 N.2:=by
    grind
   obtain⟨y1,y2⟩:=G.bx.lt p4 p5;refine⟨p4.1,p4.2,by rw[e1,p6],y1,y2,?_⟩;show Nat.testBit (Nat.land R (Vg f0)) _=true;rw[ye,p7,Bool.true_and,NP];refine⟨p4,?_,rfl⟩;have hd:=G.bx.dc;rw[D]at p5 hd;rw[List.map_append,Zt]at hd;have M:=(List.pairwise_append.1 hd).2.2;rcases ZS.1 p5 with h|h
   ·exfalso;have:=M (m2 p4) (ZM.2 ⟨p4,h,rfl⟩) (m2 p0) (Zc ..);rw[p6,p2]at b8;exact this.asymm rfl rfl b8
   grind
  ·obtain⟨t,ht,e1,-⟩:=T8 z;obtain⟨p4,p5,p6,-⟩:=C t ht
   grind
  ·have F:X2 N.1⁻¹ O≠[]:=fun h=>by
    grind [X2,Zr]
   have hl:=w1.ld;have f7:L8 N.2/\Wu w N.2<=Wu w L/\Wz o N.2 L:=by
    obtain⟨b1,V⟩:=T _ (U.mem N q1).1;refine⟨q2,?_,V⟩;rw[p2]at V⊢;rw[hL]at V⊢;exact G.hw p0 p1 _ _ V
   refine(UP.one (P:=fun n=>L8 n/\Wu w n<=Wu w L/\Wz o n L) e4 (a7 F) hl (m:=zM) (c:=N.1) rfl (by
    grind [oW])).congr fun φ=> ?_
   have e1:(XZ (X2 N.1⁻¹ O) fun k=>φ (Xg zM k))=XZ (X2 N.1⁻¹ O) φ:=Uy fun u z=>by rw[oW (w1.pl.q8 u z)]
   grind [N3]
end
