/- One step of division by the program: plain facts. -/
import Derived.Test.YtefpgecinlekpaaGreatGr
import Derived.Test.YtefpgecinlekpaaGreatQBas
namespace Go.Proofs.YtefpgecinlekpaaGreat
open Go.Ev Go.Num
theorem Sq.of {x:Rat}{k:Nat}(c:k<10000000)(a:x.num.natAbs<4294967296^k)(b:x.den<4294967296^k):Sq x:=by
 have:=Vc a;have:=Vc b;exact⟨by omega,by omega⟩
theorem Sq.le {x:Rat}{D k C:Nat}(b:k<10000000)(a:0<D){z:Int}(h:x*(D:Rat)=(z:Rat))(e:D<=C)(f:z.natAbs<=C)(g:C<4294967296^k):Sq x:=by
 obtain⟨c,d⟩:=ye a h;exact Sq.of b (by omega) (by omega)
theorem Am {C k:Nat}{a:List Qm}(g:k<10000000)(h:Cf C a)(f:C<4294967296^k):Sz a:=by
 obtain⟨D,b,c,d⟩:=h;intro t i;obtain⟨z,e,j⟩:=d t i;exact Sq.le g b e c j f
abbrev rU (w:List Nat)(W:Nat)(m:List Nat):Prop:=L8 m/\Vr w m<=W
theorem rU.ok {w m:List Nat}{W:Nat}(h:rU w W m)(b:w.length=8)(d:∀a∈w,0<a)(f:W<=65535):XL m:=
 ⟨h.1,fun e c=>by have:=wT (b.trans h.1.symm) d e c;have:=h.2;omega⟩
structure Q0 (o:List (List Int))(w:List Nat)(a:Nat)(fs:List (List Qm))(d:Dv):Prop where
 mem:d.2.1∈fs
 pl:Pl d.2.1
 ld:Wl o d.2.1=some d.1
 po:PO o (d.1::d.2.2.1)
 perm:(d.1::d.2.2.1).Perm d.2.1
 cd:∃k:Nat,0<k/\k<=a/\∀u∈d.2.1,∃y:Int,u.1*(k:Rat)=(y:Rat)/\y.natAbs<=a
 wl:∀u∈d.2.1,Vr w u.2<=Vr w d.1.2
 len:d.2.1.length<50000
structure Cx (o:List (List Int))(w:List Nat)(W a k:Nat)(fs:List (List Qm))(ds:List Dv):Prop where
 w8:w.length=8
 wp:∀x∈w,0<x
 Gv:W<=65535
 dv:∀d∈ds,Q0 o w a fs d
 a1:1<=a
 k7:k<10000000
 Gr:∀f∈fs,Pl f
theorem By {p:List Qm}(a:Nz p)(n:List Nat):Wg p (Vm n)=0\/∃u∈p,u.2=n/\Wg p (Vm n)=u.1:=by
 by_cases h:Wg p (Vm n)=0
 ·exact .inl h
 ·exact .inr ⟨_,a.mem (m:=n) h,rfl,rfl⟩
theorem kP:∀{q:List Qm},Nz q->∀{m n:List Nat},L8 m->(Wg q (fun k=>Vm n (Xg k m))=0\/∃u∈q,Xg u.2 m=n/\Wg q (fun k=>Vm n (Xg k m))=u.1)
 |[],_,_,_,_=>.inl rfl
 |u::q,h,m,n,hm=>by
  by_cases a:Xg u.2 m=n
  ·right;refine⟨u,Ze ..,a,?_⟩;have :Wg q (fun k=>Vm n (Xg k m))=0:=QC fun x b=>by
    unfold Vm;rw[if_neg];intro e;have d:=h.q8 x (Zc _ b);have c:=h.q8 u (Ze ..);have :x.2=u.2:=by
     rw[<-a,X7 x.2,X7 u.2]at e;exact S3 (hm.trans d.symm) (hm.trans c.symm) e
    exact(List.nodup_cons.1 h.nd).1 (ZH.2 ⟨x,b,this⟩)
   simp only[Wg,this];unfold Vm;rw[if_pos a];grind
  ·have e:Wg (u::q) (fun k=>Vm n (Xg k m))=Wg q (fun k=>Vm n (Xg k m)):=by
    simp only[Wg];have :Vm n (Xg u.2 m)=0:=by unfold Vm;rw[if_neg a]
    rw[this];grind
   rw[e];rcases kP h.tail hm with h1|⟨x,b,h1,h2⟩
   ·exact .inl h1
   ·exact .inr ⟨x,Zc _ b,h1,h2⟩
theorem mW (y:Int)(h:y≠0):∃e:Int,((y.natAbs:Nat):Rat)=((e*y:Int):Rat)/\e.natAbs=1:=by
 rcases Int.natAbs_eq y with h1|h1
 ·exact⟨1,by rw[<-Rat.intCast_natCast,<-h1,Int.one_mul],rfl⟩
 ·refine⟨-1,?_,rfl⟩;rw[<-Rat.intCast_natCast];congr 1;omega
structure Fs (o:List (List Int))(a C:Nat)(fs:List (List Qm))(δ:List Nat)(l:List (List Nat))(t:Qm)(p:List Qm)(d:Dv)(k:Nat):Prop where
 po:PO o (Tp o (-(XR t d.1).1) (XR t d.1).2 p d.2.2.1)
 mem:∀x∈Tp o (-(XR t d.1).1) (XR t d.1).2 p d.2.2.1,x.2∈l
 cf:Cf (2*a*C) (Tp o (-(XR t d.1).1) (XR t d.1).2 p d.2.2.1)
 c1:PR p
 c3:Sq t.1
 c4:Sq d.1.1
 c5:Sq (XR t d.1).1
 c6:PR d.2.2.1
 c7:∀u∈d.2.2.1,XL (Xg u.2 (XR t d.1).2)/\u.1≠0/\Sq (-(XR t d.1).1*u.1)
 c8:d.1.1≠0
 c9:(XR t d.1).1≠0
 m8:L8 (XR t d.1).2
 ms:Xg (XR t d.1).2 d.1.2=δ
 eq:∀φ,Wg (t::p) φ=Wg (Tp o (-(XR t d.1).1) (XR t d.1).2 p d.2.2.1) φ+(XR t d.1).1*Wg d.2.1 fun n=>φ (Xg (XR t d.1).2 n)
theorem step {o:List (List Int)}{w:List Nat}{W a k:Nat}{fs:List (List Qm)}{ds:List Dv}(i:Cx o w W a k fs ds){v:List Nat}{l:List (List Nat)}(I:rU w W v)(b1:∀n∈l,L8 n)(c0:∀n∈l,Vv o n v)(a7:∀n,rU w W n->Vv o n v->n∈l)(b2:EI o l)(b9:l.length<50000)
  {t:Qm} {p:List Qm} (hp:PO o (t::p)) (ht:t.2=v) (hm:∀u∈p,u.2∈l) {C:Nat} (hC:Cf C (t::p)) (s:C*a<4294967296^k) (a6:1<=C) {d:Dv} (hd:d∈ds) (a8:X9 d.1.2 v=true):Fs o a C fs v l t p d k:=by
 have D:=i.dv d hd;have a1:=i.a1;obtain⟨s1,s2,s3,s4⟩:=We D.pl D.ld;have j:Xg (XR t d.1).2 d.1.2=v:=by
  show Xg (WW t.2 d.1.2) d.1.2=v;rw[X7,ht];exact RO (s2.trans I.1.symm) a8
 have c:L8 (XR t d.1).2:=by
  show L8 (WW t.2 d.1.2);rw[ht];exact U6 I.1 s2
 have F:=hp.tail;have hr:=D.po.tail;have r:∀u∈d.2.2.1,u∈d.2.1:=fun u b=>D.perm.mem_iff.1 (Zc _ b)
 have c1:Vr w (XR t d.1).2+Vr w d.1.2<=W:=by
  rw[<-SE w (c.trans s2.symm),j];exact I.2
 have G:∀u∈d.2.2.1,rU w W (Xg u.2 (XR t d.1).2)/\Vv o (Xg u.2 (XR t d.1).2) v:=fun u b=>by
  have H:=hr.q8 u b;have h1:=D.wl u (r u b);have h2:=(Zr.1 D.po.pw).1 u b;refine⟨⟨Ty H c,by rw[SE w (H.trans c.symm)];omega⟩,?_⟩;have:=h2.add c H s2
  rwa[j,X7]at this
 have b5:t.1≠0:=hp.nz t (Ze ..);have O:(XR t d.1).1≠0:=by
  show t.1 / d.1.1≠0;intro h;have h1:t.1 / d.1.1*d.1.1=t.1:=Rat.div_mul_cancel s3;rw[h,Rat.zero_mul]at h1;exact b5 h1.symm
 have P:(XR t d.1).1*d.1.1=t.1:=Rat.div_mul_cancel s3;have b3: -(XR t d.1).1≠0:=fun h=>O (by rw[<-Rat.neg_neg (XR t d.1).1,h];rfl)
 obtain⟨g1,g2,g3⟩:=iS (o:=o) b3 c d.2.2.1 p F hr;have b0:∀M,Wg (t::p) M=Wg (Tp o (-(XR t d.1).1) (XR t d.1).2 p d.2.2.1) M+(XR t d.1).1*Wg d.2.1 fun n=>M (Xg (XR t d.1).2 n):=fun M=>by
  rw[g3,<-QB D.perm];simp only[Wg];rw[j,ht];have e:(Wg d.2.2.1 fun n=>M (Xg (XR t d.1).2 n))=Wg d.2.2.1 fun k=>M (Xg k (XR t d.1).2):=Vs fun u _=>by rw[X7]
  rw[e,<-P];grind
 obtain⟨E,e1,e2,e3⟩:=hC;obtain⟨q,q1,q2,q3⟩:=D.cd;obtain⟨zt,a4,a5⟩:=e3 t (Ze ..);obtain⟨f,K,a3⟩:=q3 d.1 s1;have b4:(q:Rat)≠0:=by
  intro h;have :q=0:=by exact_mod_cast h
  omega
 have X:f≠0:=by
  intro h;rw[h]at K;have :d.1.1*(q:Rat)=0:=K;exact(Rat.mul_eq_zero.1 this).elim s3 b4
 obtain⟨e,a9,S⟩:=mW f X;have Y:0<f.natAbs:=Int.natAbs_pos.2 X;have A:0<E*f.natAbs:=Nat.mul_pos e1 Y;have g:E*f.natAbs<=C*a:=Ya e2 a3;have B:((E*f.natAbs:Nat):Rat)=(E:Rat)*((e:Rat)*(f:Rat)):=by
  rw[Rat.natCast_mul,a9,Ys]
 have R:(XR t d.1).1*((E*f.natAbs:Nat):Rat)=((e*zt*(q:Int):Int):Rat):=by
  rw[B,Ys,Ys,Rat.intCast_natCast,<-a4,<-P,<-K];grind
 have Q:∀{u:Qm} {y:Int},u.1*(q:Rat)=(y:Rat)->(XR t d.1).1*u.1*((E*f.natAbs:Nat):Rat)=((e*zt*y:Int):Rat):=fun{u y} V=>by
  have :(XR t d.1).1*u.1*((E*f.natAbs:Nat):Rat)=u.1*((XR t d.1).1*((E*f.natAbs:Nat):Rat)):=by grind
  rw[this,R,Ys,Ys,Ys,Ys,Rat.intCast_natCast,<-V];grind
 have N:∀{y:Int},y.natAbs<=a->(e*zt*y).natAbs<=C*a:=fun{y} V=>by
  rw[Yg,Yg,S,Z0];exact Ya a5 V
 have b7:C<=C*a:=Nat.le_mul_of_pos_right _ a1;have b8:a<=C*a:=Nat.le_mul_of_pos_left _ a6;have b6:Sz p:=Am i.k7 (C:=C) ⟨E,e1,e2,fun x T=>e3 x (Zc _ T)⟩ (by omega);have a2:∀u∈d.2.1,Sq u.1:=fun u b=>by
  obtain⟨y,J,L⟩:=q3 u b;exact Sq.le i.k7 q1 J (by omega:q<=C*a) (by omega) s
 have a0:d.2.2.1.length<50000:=by
  have:=D.perm.length_eq;have:=D.len;simp only[Zi]at *;omega
 have Z:p.length<50000:=by
  have:=PO.lk b2 b1 F hm;omega
 refine⟨g1,fun x T=> ?_,?_,⟨b6,Z⟩,?_,a2 d.1 s1,?_,⟨fun u b=>a2 u (r u b),a0⟩,fun u b=>⟨(G u b).1.ok i.w8 i.wp i.Gv,hr.nz u b,?_⟩,s3,O,c,j,b0⟩
 ·rcases g2 x T with⟨y,V,e⟩|⟨u,b,e⟩
  ·rw[<-e];exact hm y V
  ·rw[e];exact a7 _ (G u b).1 (G u b).2
 ·refine⟨E*f.natAbs,A,by rw[Yr,ZK a C];omega,fun x T=> ?_⟩;have U:=g1.Nd.Pv x T;rw[V5,g3]at U;have p1:∃z:Int,Wg p (Vm x.2)*((E*f.natAbs:Nat):Rat)=(z:Rat)/\z.natAbs<=C*a:=by
   rcases By F.Nd x.2 with h|⟨u,b,-,h⟩
   ·exact⟨0,by rw[h,Rat.zero_mul];rfl,Zs _⟩
   ·obtain⟨z,z1,z2⟩:=e3 u (Zc _ b);refine⟨z*f.natAbs,by rw[h,Rat.natCast_mul,<-Rat.mul_assoc,z1,Ys,Rat.intCast_natCast],?_⟩;rw[Yg,ZY];exact Ya z2 a3
  have p2:∃z:Int,(XR t d.1).1*(Wg d.2.2.1 fun k=>Vm x.2 (Xg k (XR t d.1).2))*((E*f.natAbs:Nat):Rat)=(z:Rat)/\z.natAbs<=C*a:=by
   rcases kP hr.Nd (m:=(XR t d.1).2) (n:=x.2) c with h|⟨u,b,-,h⟩
   ·exact⟨0,by rw[h,Rat.mul_zero,Rat.zero_mul];rfl,Zs _⟩
   ·obtain⟨y,J,L⟩:=q3 u (r u b);exact⟨_,by rw[h];exact Q J,N L⟩
  obtain⟨z1,z2,z3⟩:=p1;obtain⟨J,L,y3⟩:=p2;refine⟨z1-J,?_,?_⟩
  ·rw[<-U,Rat.intCast_sub,<-z2,<-L];grind
  ·rw[Yr,ZK a C];omega
 ·exact Sq.le i.k7 e1 a4 (by omega:E<=C*a) (by omega) s
 ·refine Sq.le i.k7 A R g ?_ s;rw[Yg,Yg,S,Z0,ZY];exact Ya a5 q2
 ·obtain⟨y,J,L⟩:=q3 u (r u b);have:=Q J;refine Sq.le (z:= -(e*zt*y)) i.k7 A ?_ g ?_ s
  ·rw[Rat.intCast_neg,<-this];grind
  ·rw[Int.natAbs_neg];exact N L
structure Ct (o:List (List Int))(w:List Nat)(W:Nat)(l:List (List Nat)):Prop where
 dc:EI o l
 CS:∀n∈l,rU w W n
 cl:∀δ∈l,∀n,rU w W n->Vv o n δ->n∈l
theorem Ct.tail {o:List (List Int)}{w:List Nat}{W:Nat}{i:List Nat}{l:List (List Nat)}(h:Ct o w W (i::l)):Ct o w W l:=by
 obtain⟨f,g⟩:=Zr.1 h.dc;have a:∀n∈l,rU w W n:=fun n c=>h.CS n (Zc _ c)
 refine⟨g,a,fun d e n c b=> ?_⟩;rcases Zk.1 (h.cl d (Zc _ e) n c b)with rfl|h1
 ·exact absurd b ((f d e).asymm (a d e).1 c.1)
 ·exact h1
structure QI (o:List (List Int))(ds:List Dv)(l:List (List Nat))(tq:List (List Qm)):Prop where
 len:tq.length=ds.length
 at_:∀(j:Nat) (q:List Qm) (d:Dv),tq[j]? =some q->ds[j]? =some d->Nz q/\Sz q/\(∀u∈q,∀x∈l,Vv o x (Xg u.2 d.1.2))/\q.length+l.length<50000
structure RI (o:List (List Int))(ds:List Dv)(l:List (List Nat))(tr:List Qm):Prop where
 Nd:Nz tr
 sz:Sz tr
 lt:∀u∈tr,∀x∈l,Vv o x u.2
 len:tr.length+l.length<50000
 nd:∀u∈tr,∀d∈ds,X9 d.1.2 u.2=false
theorem QI.sub {o:List (List Int)}{g:List Dv}{l f:List (List Nat)}{i:List (List Qm)}(h:QI o g l i)(n:∀x∈f,x∈l)(s:f.length<=l.length):QI o g f i:=
 ⟨h.len,fun j q d k m=>by
  obtain⟨a,b,c,e⟩:=h.at_ j q d k m;exact⟨a,b,fun u p x r=>c u p x (n x r),by omega⟩⟩
theorem RI.sub {o:List (List Int)}{b:List Dv}{l a:List (List Nat)}{c:List Qm}(h:RI o b l c)(d:∀x∈a,x∈l)(g:a.length<=l.length):RI o b a c:=
 ⟨h.Nd,h.sz,fun u e x f=>h.lt u e x (d x f),by have:=h.len;omega,h.nd⟩
theorem sX {q:List Qm}{t:Qm}(h:Nz q)(h0:t.1≠0)(e:L8 t.2)(g:∀u∈q,u.2≠t.2):Nz (q++[t]):=by
 refine⟨?_,fun x c=> ?_,fun x c=> ?_⟩
 ·rw[List.map_append];refine List.nodup_append.2 ⟨h.nd,by simp,fun a f b d=> ?_⟩;obtain⟨u,i,rfl⟩:=ZH.1 f;simp only[Zw,ZT,Zk,ZX,or_false]at d;subst d;exact g u i
 ·rcases ZV.1 c with c|c
  ·exact h.nz x c
  ·simp only[Zk,ZX,or_false]at c;subst c;exact h0
 ·rcases ZV.1 c with c|c
  ·exact h.q8 x c
  ·simp only[Zk,ZX,or_false]at c;subst c;exact e
theorem Sz.snoc {q:List Qm}{t:Qm}(h:Sz q)(b:Sq t.1):Sz (q++[t]):=fun x a=>by
 rcases ZV.1 a with a|a
 ·exact h x a
 ·simp only[Zk,ZX,or_false]at a;subst a;exact b
theorem nH {C a:Nat}(n:Nat):2*a*C*(2*a)^n*a=C*(2*a)^(n+1)*a:=by
 rw[ZJ,ZK (2*a) C,Yr C,ZK ((2*a)^n)]
theorem Dw {a:Nat}(h:1<=a)(n:Nat):1<=(2*a)^n:=Nat.pos_of_ne_zero (by
 intro e;have:=Nat.pow_eq_zero.1 e;omega)
theorem sN {C a:Nat}(h:1<=a)(n:Nat):C*(2*a)^n*a<=C*(2*a)^(n+1)*a:=by
 apply Zo;apply YH;rw[ZJ];exact Nat.le_mul_of_pos_right _ (by omega)
theorem sO {C a:Nat}(h:1<=a)(n:Nat):C*a<=C*(2*a)^n*a:=by
 apply Zo;exact Nat.le_mul_of_pos_right _ (Dw h n)
theorem nJ {o:List (List Int)}{w:List Nat}{W:Nat}{c:List Nat}{l:List (List Nat)}(d:Ct o w W (c::l)){t:Qm}{p:List Qm}(i:PO o (t::p))(f:∀u∈t::p,u.2∈c::l):(∀u∈p,u.2∈l)/\(t.2≠c->∀u∈t::p,u.2∈l):=by
 have j:=(Zr.1 d.dc).1;have h:=d.CS c (Ze ..);have key:∀u∈p,u.2∈l:=fun u b=>by
  have a:=(Zr.1 i.pw).1 u b;rcases Zk.1 (f u (Zc _ b))with e|e
  ·rcases Zk.1 (f t (Ze ..))with e2|e2
   ·rw[e,e2]at a;exact absurd a Vv.AK
   ·rw[e]at a;exact absurd a ((j _ e2).asymm (d.CS _ (Zc _ e2)).1 h.1)
  ·exact e
 refine⟨key,fun g u b=> ?_⟩;rcases Zk.1 b with rfl|b
 ·exact(Zk.1 (f u (Ze ..))).resolve_left g
 ·exact key u b
theorem bw {o:List (List Int)}{w:List Nat}{W a k:Nat}{fs:List (List Qm)}{B:List Dv}(v:Cx o w W a k fs B){tq:List (List Qm)}(r:∀q∈tq,PR q):∀(l:List (List Nat)),Ct o w W l->l.length<50000->∀{p:List Qm} {C:Nat},PO o p->(∀u∈p,u.2∈l)->Cf C p->1<=C->C*(2*a)^l.length*a<4294967296^k->
  ∃n b,aW o Sq PR XL B true n p tq [] tq b/\((b=[]/\SD o fs (fun n=>n∈l) fun m=>Wg p m)\/∃t A,b=[t]/\PO o (t::A)/\(∀u∈t::A,u.2∈l)/\(∀d∈B,X9 d.1.2 t.2=false)/\SD o fs (fun n=>n∈l) fun m=>Wg p m-Wg (t::A) m)
 |l,_,_,[],_,_,_,_,_,_=>⟨0,[],.done,.inl ⟨rfl,.zero fun m=>rfl⟩⟩
 |[],_,_,t::p,_,_,hm,_,_,_=>by have:=hm t (Ze ..);cases this
 |δ::l,hl,hln,t::p,C,hp,hm,hC,hC1,g=>by
  obtain⟨U,V⟩:=nJ hl hp hm;have f:=hl.tail;have J:=hl.CS δ (Ze ..);have A:=(Zr.1 hl.dc).1;have R:=v.a1;simp only[Zi]at hln g;have y:=Z5 (sN (C:=C) R l.length) g;have z:=Z5 (sO (C:=C) R (l.length+1)) g;by_cases H:t.2=δ
  ·cases E:Tt t.2 B 0 with
   |none=>exact⟨1,[t],.xX rfl ⟨(fun _ h=>by cases h),by simp⟩ E,.inr ⟨t,p,rfl,hp,hm,TD E,.zero fun m=>by grind⟩⟩
   |some j=>
    obtain⟨d,X,F,T,Y⟩:=SX E;rw[Nat.sub_zero]at F;rw[H]at T;have x:=Zt F;have S:=step v J (fun n e=>(f.CS n e).1) A (fun n e i=>(Zk.1 (hl.cl δ (Ze ..) n e i)).resolve_left i.ne) f.dc (by omega) hp H U hC z hC1 x T;have G:1<=2*a*C:=Nat.mul_pos (by omega) hC1;obtain⟨n,b,K,L⟩:=bw v r l f (by omega) S.po S.mem S.cf G (by rw[nH];exact g);refine⟨n+1,b,.div S.c1 S.c3 S.c4 S.c5 S.c6 S.c7 S.c8 S.c9 r E F K,?_⟩;have D:=v.dv d x;rcases L with⟨rfl,s⟩|⟨Q,P,rfl,s,M,N,O⟩
    ·left;refine⟨rfl,SD.add (c:=(XR t d.1).1) D.mem D.ld S.m8 (by rw[S.ms];exact Ze ..) (s.mono fun n e=>Zc _ e) fun m=> ?_⟩;rw[S.eq]
    ·right;refine⟨Q,P,rfl,s,fun u I=>Zc _ (M u I),N,SD.add (c:=(XR t d.1).1) D.mem D.ld S.m8 (by rw[S.ms];exact Ze ..) (O.mono fun n e=>Zc _ e) fun m=> ?_⟩;rw[S.eq];grind
  ·obtain⟨n,b,K,L⟩:=bw v r l f (by omega) hp (V H) hC hC1 y;refine⟨n,b,K,?_⟩;rcases L with⟨rfl,s⟩|⟨Q,P,rfl,s,M,N,O⟩
   ·exact .inl ⟨rfl,s.mono fun n e=>Zc _ e⟩
   ·exact .inr ⟨Q,P,rfl,s,fun u I=>Zc _ (M u I),N,O.mono fun n e=>Zc _ e⟩
end Go.Proofs.YtefpgecinlekpaaGreat
namespace Go.Num
open Go.Ev
theorem oV:∀{s t d:List Nat},s.length=d.length->t.length=d.length->X9 s d=true->X9 t d=true->X9 (Wb s t) d=true
 |[],_,_,_,_,_,_=>by simp[Wb,X9]
 |_::_,[],_,_,_,_,_=>by simp[Wb,X9]
 |a::s,b::t,[],h,_,_,_=>by simp at h
 |a::s,b::t,c::d,h1,h2,h3,h4=>by
  simp only[X9,Zp,decide_eq_true_eq]at h3 h4;have e:=oV (s:=s) (t:=t) (d:=d) (by simpa using h1) (by simpa using h2) h3.2 h4.2;unfold Wb at e⊢;simp only[ZG,X9,e,Bool.and_true,decide_eq_true_eq];omega
theorem vN (s t:List Nat):Wb s t=Wb t s:=by
 unfold Wb;rw[List.zipWith_comm];congr;funext a b;exact Nat.max_comm ..
theorem cR:∀{s t:List Nat},s.length=t.length->(∀x∈Og s t,x=0)->Wb s t=Xg s t
 |[],[],_,_=>rfl
 |[],_::_,h,_=>by simp at h
 |_::_,[],h,_=>by simp at h
 |a::s,b::t,h,hg=>by
  have c:=cR (s:=s) (t:=t) (by simpa using h) fun x d=>hg x (by simp only[Og,ZG];exact Zc _ d)
  have h0:=hg (min a b) (by simp only[Og,ZG];exact Ze ..);unfold Wb Xg at c⊢;simp only[ZG,c];congr 1;omega
theorem gT:∀{s t:List Nat},s.length=t.length->WW (Xg s t) s=t
 |[],[],_=>rfl
 |[],_::_,h=>by simp at h
 |_::_,[],h=>by simp at h
 |a::s,b::t,h=>by
  have c:=gT (s:=s) (t:=t) (by simpa using h);unfold WW Xg at c⊢;simp only[ZG,c,YD]
variable {o:List (List Int)}{w:List Nat}{fs:List (List Qm)}
def SB (o:List (List Int))(w:List Nat)(fs:List (List Qm))(f g:List Qm)(s t:Qm):Prop:=
 SD o fs (fun n=>L8 n/\Vr w n<=Vr w (Wb s.2 t.2)/\Vv o n (Wb s.2 t.2)) fun φ=>t.1*(Wg f fun n=>φ (Xg (WW (Wb s.2 t.2) s.2) n))-s.1*Wg g fun n=>φ (Xg (WW (Wb s.2 t.2) t.2) n)
theorem SB.sym {f g:List Qm}{s t:Qm}(h:SB o w fs f g s t):SB o w fs g f t s:=by
 unfold SB at h⊢;rw[vN t.2 s.2];exact(h.smul (-1)).congr fun a=>by grind
theorem SB.shift (q:∀f∈fs,Pl f){f g:List Qm}{s t:Qm}(c:L8 s.2)(d:L8 t.2)(h:SB o w fs f g s t){W:Nat}{i m k:List Nat}(j:L8 i/\Vr w i<=W)(D:L8 m)(C:L8 k)(u:Xg m s.2=i)(v:Xg k t.2=i):
  SD o fs (fun n=>(L8 n/\Vr w n<=W)/\Vv o n i) fun r=>t.1*(Wg f fun n=>r (Xg m n))-s.1*Wg g fun n=>r (Xg k n):=by
 have b:=q0 c d;have z:X9 s.2 i=true:=by rw[<-u,X7];exact aL ..
 have A:X9 t.2 i=true:=by rw[<-v,X7];exact aL ..
 have B:=oV (c.trans j.1.symm) (d.trans j.1.symm) z A;have e:L8 (WW i (Wb s.2 t.2)):=U6 j.1 b;have p:Xg (WW i (Wb s.2 t.2)) (Wb s.2 t.2)=i:=by rw[X7];exact RO (b.trans j.1.symm) B
 have x:Xg (WW (Wb s.2 t.2) s.2) s.2=Wb s.2 t.2:=by rw[X7];exact RO (c.trans b.symm) (QR _ _ (c.trans d.symm))
 have y:Xg (WW (Wb s.2 t.2) t.2) t.2=Wb s.2 t.2:=by rw[X7];exact RO (d.trans b.symm) (QQ _ _ (c.trans d.symm))
 have e1:Xg (WW i (Wb s.2 t.2)) (WW (Wb s.2 t.2) s.2)=m:=by
  refine S3 (a:=s.2) (by rw[c,Ty e (U6 b c)]) (c.trans D.symm) ?_;rw[X7 s.2,SC,x,p,X7,u]
 have e2:Xg (WW i (Wb s.2 t.2)) (WW (Wb s.2 t.2) t.2)=k:=by
  refine S3 (a:=t.2) (by rw[d,Ty e (U6 b d)]) (d.trans C.symm) ?_;rw[X7 t.2,SC,y,p,X7,v]
 have E:Vr w i=Vr w (WW i (Wb s.2 t.2))+Vr w (Wb s.2 t.2):=by rw[<-SE w (e.trans b.symm),p]
 refine(SD.shift (Q:=fun n=>(L8 n/\Vr w n<=W)/\Vv o n i) e q h fun n l=>⟨⟨Ty e l.1,?_⟩,?_⟩).congr fun r=> ?_
 ·rw[SE w (e.trans l.1.symm)];have:=j.2;have:=l.2.1;omega
 ·have:=l.2.2.add e l.1 b
  rwa[p]at this
 ·simp only[<-SC,e1,e2]
theorem SB.coprime {f g l p:List Qm}{s t:Qm}(C:f∈fs)(D:g∈fs)(E:Wl o f=some s)(F:Wl o g=some t)(y:(s::l).Perm f)(z:(t::p).Perm g)(of:PO o (s::l))(v:PO o (t::p))(I:∀u∈f,Vr w u.2<=Vr w s.2)(J:∀u∈g,Vr w u.2<=Vr w t.2)
  (i:∀x∈Og s.2 t.2,x=0):SB o w fs f g s t:=by
 have a:=of.q8 s (Ze ..);have b:=v.q8 t (Ze ..);have h:=cR (a.trans b.symm) i;have B:L8 (Wb s.2 t.2):=q0 a b;have j:Vr w (Wb s.2 t.2)=Vr w s.2+Vr w t.2:=by rw[h,SE w (a.trans b.symm)]
 have e1:WW (Wb s.2 t.2) s.2=t.2:=by rw[h];exact gT (a.trans b.symm)
 have e2:WW (Wb s.2 t.2) t.2=s.2:=by rw[h,X7];exact gT (b.trans a.symm)
 unfold SB;rw[e1,e2];have G:=SD.prod (P:=fun n=>L8 n/\Vr w n<=Vr w (Wb s.2 t.2)/\Vv o n (Wb s.2 t.2)) D F (q:=l) fun u e=>by
  have c:=of.q8 u (Zc _ e);have A:=I u (y.mem_iff.1 (Zc _ e));have r:=((Zr.1 of.pw).1 u e).add b c a;refine⟨c,Ty c b,?_,?_⟩
  ·rw[SE w (c.trans b.symm),j];omega
  ·rw[h,X7 u.2,X7 s.2];exact r
 have H:=SD.prod (P:=fun n=>L8 n/\Vr w n<=Vr w (Wb s.2 t.2)/\Vv o n (Wb s.2 t.2)) C E (q:=p) fun u e=>by
  have c:=v.q8 u (Zc _ e);have A:=J u (z.mem_iff.1 (Zc _ e));have r:=((Zr.1 v.pw).1 u e).add a c b;refine⟨c,Ty c a,?_,?_⟩
  ·rw[SE w (c.trans a.symm),j];omega
  ·rw[h,X7 u.2];exact r
 refine(G.plus (H.smul (-1))).congr fun d=> ?_
 have K:(Wg g fun m=>Wg f fun k=>d (Xg m k))=Wg f fun m=>Wg g fun k=>d (Xg m k):=by
  rw[nD];exact Vs fun m _=>Vs fun k _=>by rw[X7]
 have L:(Wg g fun m=>Wg f fun k=>d (Xg m k))=t.1*(Wg f fun k=>d (Xg t.2 k))+Wg p fun m=>Wg f fun k=>d (Xg m k):=(QB (φ:=fun m=>Wg f fun k=>d (Xg m k)) z).symm
 have M:(Wg f fun m=>Wg g fun k=>d (Xg m k))=s.1*(Wg g fun k=>d (Xg s.2 k))+Wg l fun m=>Wg g fun k=>d (Xg m k):=(QB (φ:=fun m=>Wg g fun k=>d (Xg m k)) y).symm
 grind
def FZ (o:List (List Int))(w:List Nat)(W:Nat)(fs:List (List Qm)):Prop:=
 ∀v:Fn,SD o fs (fun n=>L8 n/\Vr w n<=W) v->(∀n,L8 n->v (Vm n)=0)\/∃δ f s,v (Vm δ)≠0/\L8 δ/\(∀n,L8 n->Vv o δ n->v (Vm n)=0)/\f∈fs/\Wl o f=some s/\X9 s.2 δ=true
theorem oJ (q:w.length=8)(x:∀a∈w,0<a)(d:∀f∈fs,Pl f)(h:∀f∈fs,∀g∈fs,f≠g->∀s t,Wl o f=some s->Wl o g=some t->SB o w fs f g s t)(W:Nat):FZ o w W fs:=by
 intro v D;have e:∀n∈Se o (allM w W),L8 n/\Vr w n<=W:=fun n c=>by
  obtain⟨a,b⟩:=OA (W6.1 c) x;exact⟨a.trans q,b⟩
 rcases SD.lead d (W:=fun n=>L8 n/\Vr w n<=W) (fun n c=>c.1) (fun p y f z g A s t m k r l C B e1 e2=>by
  have i:=(We (d f z) r).2.1;have u:=(We (d g A) l).2.1;by_cases j:f=g
  ·subst j;rw[r]at l;cases l;have :m=k:=S3 (a:=s.2) (i.trans C.symm) (i.trans B.symm) (by rw[X7,e1,X7,e2]);subst this;exact .zero fun E=>by grind
  ·exact(h f z g A j s t r l).shift d i u y C B e1 e2)
  (Se o (allM w W)) e (NW fun n c=>(e n (W6.2 c)).1) (fun p _ n c _=>W6.2 (RE (q.trans c.1.symm) x c.2)) v (D.mono fun n c=>W6.2 (RE (q.trans c.1.symm) x c.2))with h1|⟨p,f,s,h1,h2,h3,h4⟩
 ·exact .inl h1
 ·exact .inr ⟨p,f,s,h1,(e p h2).1,h3,h4⟩
theorem DT {W:Nat}(d:FZ o w W fs){a:List Qm}(b:Nz a)(e:SD o fs (fun n=>L8 n/\Vr w n<=W) fun g=>Wg a g)(c:∀u∈a,∀f∈fs,∀s,Wl o f=some s->X9 s.2 u.2=false):a=[]:=by
 rcases d _ e with h|⟨δ,f,s,h1,h2,h3,h4,h5,h6⟩
 ·cases a with
  |nil=>rfl
  |cons t a=>
   have:=b.Pv t (Ze ..);rw[V5,h _ (b.q8 t (Ze ..))]at this;exact absurd this.symm (b.nz t (Ze ..))
 ·have:=c _ (b.mem (m:=δ) h1) f h4 s h5;rw[h6]at this;cases this
theorem zy {W:Nat}(i:FZ o w W fs){t:Qm}{p:List Qm}(a:PO o (t::p))(k:SD o fs (fun n=>L8 n/\Vr w n<=W) fun l=>Wg (t::p) l)(g:∀f∈fs,∀s,Wl o f=some s->X9 s.2 t.2=false):False:=by
 have c:=a.q8 t (Ze ..);have b:=a.Nd.Pv t (Ze ..);rw[V5]at b;rcases i _ k with h|⟨δ,f,s,h1,h2,h3,h4,h5,h6⟩
 ·rw[h _ c]at b;exact a.nz t (Ze ..) b.symm
 ·have j:=a.Nd.mem (m:=δ) h1;have :δ=t.2:=by
   rcases Zk.1 j with e|e
   ·exact congrArg Prod.snd e
   ·have d:=(Zr.1 a.pw).1 _ e;have:=h3 t.2 c d;rw[this]at b;exact absurd b.symm (a.nz t (Ze ..))
  rw[this]at h6;rw[g f h4 s h5]at h6;cases h6
end Go.Num
