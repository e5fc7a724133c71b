/- One step of division by the program: plain facts. -/
import Derived.Test.YtidginchkjhobaaGreatGr
import Derived.Test.YtidginchkjhobaaGreatQBas
namespace Go.Proofs.YtidginchkjhobaaGreat
open Go.Ev Go.Num
theorem Sq.of {x:Rat}{k:Nat}(c:k<10000000)(a:x.num.natAbs<4294967296^k)(b:x.den<4294967296^k):Sq x:=by
 have:=Vo a;have:=Vo b;exact⟨by omega,by omega⟩
def Bq (k:Nat)(x:Rat):Prop:=x.num.natAbs<4294967296^k/\x.den<4294967296^k
theorem Bq.sq {x:Rat}{k:Nat}(h:Bq k x)(a:k<10000000):Sq x:=Sq.of a h.1 h.2
theorem Bq.le {x:Rat}{D k C:Nat}(a:0<D){z:Int}(h:x*(D:Rat)=(z:Rat))(d:D<=C)(e:z.natAbs<=C)(f:C<4294967296^k):Bq k x:=by
 obtain⟨b,c⟩:=ym a h;exact⟨by omega,by omega⟩
theorem Sq.le {x:Rat}{D k C:Nat}(e:k<10000000)(d:0<D){z:Int}(h:x*(D:Rat)=(z:Rat))(a:D<=C)(b:z.natAbs<=C)(c:C<4294967296^k):Sq x:=(Bq.le d h a b c).sq e
theorem CJ {C k:Nat}{a:List Qm}(g:k<10000000)(h:Cf C a)(f:C<4294967296^k):Sz a:=by
 obtain⟨D,b,c,d⟩:=h;intro t i;obtain⟨z,e,j⟩:=d t i;exact Sq.le g b e c j f
abbrev OV (w:List Nat)(W:Nat)(m:List Nat):Prop:=L8 m/\WT w m<=W
theorem OV.ok {w m:List Nat}{W:Nat}(h:OV w W m)(b:w.length=8)(d:∀a∈w,0<a)(f:W<=65535):XE m:=
 ⟨h.1,fun e c=>by have:=xd (b.trans h.1.symm) d e c;have:=h.2;omega⟩
structure QM (o:List (List Int))(w:List Nat)(a:Nat)(fs:List (List Qm))(d:Dv):Prop where
 mem:d.2.1∈fs
 pl:Pl d.2.1
 ld:XU o d.2.1=some d.1
 po:PO o (d.1::d.2.2.1)
 perm:(d.1::d.2.2.1).Perm d.2.1
 cd:∃k:Nat,0<k/\k<=a/\∀u∈d.2.1,∃y:Int,u.1*(k:Rat)=(y:Rat)/\y.natAbs<=a
 wl:∀u∈d.2.1,WT w u.2<=WT w d.1.2
 len:d.2.1.length<50000
structure Cx (o:List (List Int))(w:List Nat)(W a k:Nat)(fs:List (List Qm))(ds:List Dv):Prop where
 w8:w.length=8
 wp:∀x∈w,0<x
 Gh:W<=65535
 dv:∀d∈ds,QM o w a fs d
 a1:1<=a
 k7:k<10000000
 Ga:∀f∈fs,Pl f
theorem Bm {p:List Qm}(a:Nz p)(n:List Nat):Wc p (V2 n)=0\/∃u∈p,u.2=n/\Wc p (V2 n)=u.1:=by
 by_cases h:Wc p (V2 n)=0
 ·exact .inl h
 ·exact .inr ⟨_,a.mem (m:=n) h,rfl,rfl⟩
theorem kW:∀{q:List Qm},Nz q->∀{m n:List Nat},L8 m->(Wc q (fun k=>V2 n (Xg k m))=0\/∃u∈q,Xg u.2 m=n/\Wc q (fun k=>V2 n (Xg k m))=u.1)
 |[],_,_,_,_=>.inl rfl
 |u::q,h,m,n,hm=>by
  by_cases a:Xg u.2 m=n
  ·right;refine⟨u,Ze ..,a,?_⟩;have :Wc q (fun k=>V2 n (Xg k m))=0:=fp fun x b=>by
    unfold V2;rw[if_neg];intro e;have d:=h.q8 x (Zc _ b);have c:=h.q8 u (Ze ..);have :x.2=u.2:=by
     rw[<-a,XP x.2,XP u.2]at e;exact Ua (hm.trans d.symm) (hm.trans c.symm) e
    exact(List.nodup_cons.1 h.nd).1 (ZQ.2 ⟨x,b,this⟩)
   simp only[Wc,this];unfold V2;rw[if_pos a];grind
  ·have e:Wc (u::q) (fun k=>V2 n (Xg k m))=Wc q (fun k=>V2 n (Xg k m)):=by
    simp only[Wc];have :V2 n (Xg u.2 m)=0:=by unfold V2;rw[if_neg a]
    rw[this];grind
   rw[e];rcases kW h.tail hm with h1|⟨x,b,h1,h2⟩
   ·exact .inl h1
   ·exact .inr ⟨x,Zc _ b,h1,h2⟩
theorem eW (y:Int)(h:y≠0):∃e:Int,((y.natAbs:Nat):Rat)=((e*y:Int):Rat)/\e.natAbs=1:=by
 rcases Int.natAbs_eq y with h1|h1
 ·exact⟨1,by rw[<-YS,<-h1,Int.one_mul],rfl⟩
 ·refine⟨-1,?_,rfl⟩;rw[<-YS];congr 1;omega
structure E7 (o:List (List Int))(a C:Nat)(fs:List (List Qm))(δ:List Nat)(l:List (List Nat))(t:Qm)(p:List Qm)(d:Dv)(k:Nat):Prop where
 po:PO o (Tq o (-(XQ t d.1).1) (XQ t d.1).2 p d.2.2.1)
 mem:∀x∈Tq o (-(XQ t d.1).1) (XQ t d.1).2 p d.2.2.1,x.2∈l
 cf:Cf (2*a*C) (Tq o (-(XQ t d.1).1) (XQ t d.1).2 p d.2.2.1)
 c1:Pw p
 c3:Sq t.1
 c4:Sq d.1.1
 c5:Bq k (XQ t d.1).1
 c6:Pw d.2.2.1
 c7:∀u∈d.2.2.1,XE (Xg u.2 (XQ t d.1).2)/\u.1≠0/\Sq (-(XQ t d.1).1*u.1)
 c8:d.1.1≠0
 c9:(XQ t d.1).1≠0
 m8:L8 (XQ t d.1).2
 ms:Xg (XQ t d.1).2 d.1.2=δ
 eq:∀φ,Wc (t::p) φ=Wc (Tq o (-(XQ t d.1).1) (XQ t d.1).2 p d.2.2.1) φ+(XQ t d.1).1*Wc d.2.1 fun n=>φ (Xg (XQ t d.1).2 n)
theorem step {o:List (List Int)}{w:List Nat}{W a k:Nat}{fs:List (List Qm)}{ds:List Dv}(i:Cx o w W a k fs ds){v:List Nat}{l:List (List Nat)}(I:OV w W v)(b1:∀n∈l,L8 n)(c0:∀n∈l,WE o n v)(a7:∀n,OV w W n->WE o n v->n∈l)(b2:Ep o l)(b9:l.length<50000)
  {t:Qm} {p:List Qm} (hp:PO o (t::p)) (ht:t.2=v) (hm:∀u∈p,u.2∈l) {C:Nat} (hC:Cf C (t::p)) (s:C*a<4294967296^k) (a6:1<=C) {d:Dv} (hd:d∈ds) (a8:WO d.1.2 v=true):E7 o a C fs v l t p d k:=by
 have D:=i.dv d hd;have a1:=i.a1;obtain⟨s1,s2,s3,s4⟩:=XW D.pl D.ld;have j:Xg (XQ t d.1).2 d.1.2=v:=by
  show Xg (X6 t.2 d.1.2) d.1.2=v;rw[XP,ht];exact Un (s2.trans I.1.symm) a8
 have c:L8 (XQ t d.1).2:=by
  show L8 (X6 t.2 d.1.2);rw[ht];exact Vs I.1 s2
 have F:=hp.tail;have hr:=D.po.tail;have r:∀u∈d.2.2.1,u∈d.2.1:=fun u b=>D.perm.mem_iff.1 (Zc _ b)
 have c1:WT w (XQ t d.1).2+WT w d.1.2<=W:=by
  rw[<-Vn w (c.trans s2.symm),j];exact I.2
 have G:∀u∈d.2.2.1,OV w W (Xg u.2 (XQ t d.1).2)/\WE o (Xg u.2 (XQ t d.1).2) v:=fun u b=>by
  have H:=hr.q8 u b;have h1:=D.wl u (r u b);have h2:=(Zv.1 D.po.pw).1 u b;refine⟨⟨VU H c,by rw[Vn w (H.trans c.symm)];omega⟩,?_⟩;have:=h2.add c H s2
  rwa[j,XP]at this
 have b5:t.1≠0:=hp.nz t (Ze ..);have O:(XQ t d.1).1≠0:=by
  show t.1 / d.1.1≠0;intro h;have h1:t.1 / d.1.1*d.1.1=t.1:=Rat.div_mul_cancel s3;rw[h,Rat.zero_mul]at h1;exact b5 h1.symm
 have P:(XQ t d.1).1*d.1.1=t.1:=Rat.div_mul_cancel s3;have b3: -(XQ t d.1).1≠0:=fun h=>O (by rw[<-Rat.neg_neg (XQ t d.1).1,h];rfl)
 obtain⟨g1,g2,g3⟩:=iU (o:=o) b3 c d.2.2.1 p F hr;have b0:∀M,Wc (t::p) M=Wc (Tq o (-(XQ t d.1).1) (XQ t d.1).2 p d.2.2.1) M+(XQ t d.1).1*Wc d.2.1 fun n=>M (Xg (XQ t d.1).2 n):=fun M=>by
  rw[g3,<-N9 D.perm];simp only[Wc];rw[j,ht];have e:(Wc d.2.2.1 fun n=>M (Xg (XQ t d.1).2 n))=Wc d.2.2.1 fun k=>M (Xg k (XQ t d.1).2):=U2 fun u _=>by rw[XP]
  rw[e,<-P];grind
 obtain⟨E,e1,e2,e3⟩:=hC;obtain⟨q,q1,q2,q3⟩:=D.cd;obtain⟨zt,a4,a5⟩:=e3 t (Ze ..);obtain⟨f,K,a3⟩:=q3 d.1 s1;have b4:(q:Rat)≠0:=by
  intro h;have :q=0:=by exact_mod_cast h
  omega
 have X:f≠0:=by
  intro h;rw[h]at K;have :d.1.1*(q:Rat)=0:=K;exact(Rat.mul_eq_zero.1 this).elim s3 b4
 obtain⟨e,a9,S⟩:=eW f X;have Y:0<f.natAbs:=Int.natAbs_pos.2 X;have A:0<E*f.natAbs:=Yn e1 Y;have g:E*f.natAbs<=C*a:=ZU e2 a3;have B:((E*f.natAbs:Nat):Rat)=(E:Rat)*((e:Rat)*(f:Rat)):=by
  rw[Y9,a9,Yg]
 have R:(XQ t d.1).1*((E*f.natAbs:Nat):Rat)=((e*zt*(q:Int):Int):Rat):=by
  rw[B,Yg,Yg,YS,<-a4,<-P,<-K];grind
 have Q:∀{u:Qm} {y:Int},u.1*(q:Rat)=(y:Rat)->(XQ t d.1).1*u.1*((E*f.natAbs:Nat):Rat)=((e*zt*y:Int):Rat):=fun{u y} V=>by
  have :(XQ t d.1).1*u.1*((E*f.natAbs:Nat):Rat)=u.1*((XQ t d.1).1*((E*f.natAbs:Nat):Rat)):=by grind
  rw[this,R,Yg,Yg,Yg,Yg,YS,<-V];grind
 have N:∀{y:Int},y.natAbs<=a->(e*zt*y).natAbs<=C*a:=fun{y} V=>by
  rw[Yf,Yf,S,ZZ];exact ZU a5 V
 have b7:C<=C*a:=YK _ a1;have b8:a<=C*a:=YQ _ a6;have b6:Sz p:=CJ i.k7 (C:=C) ⟨E,e1,e2,fun x T=>e3 x (Zc _ T)⟩ (by omega);have a2:∀u∈d.2.1,Sq u.1:=fun u b=>by
  obtain⟨y,J,L⟩:=q3 u b;exact Sq.le i.k7 q1 J (by omega:q<=C*a) (by omega) s
 have a0:d.2.2.1.length<50000:=by
  have:=D.perm.length_eq;have:=D.len;simp only[Zi]at *;omega
 have Z:p.length<50000:=by
  have:=PO.fQ b2 b1 F hm;omega
 refine⟨g1,fun x T=> ?_,?_,⟨b6,Z⟩,?_,a2 d.1 s1,?_,⟨fun u b=>a2 u (r u b),a0⟩,fun u b=>⟨(G u b).1.ok i.w8 i.wp i.Gh,hr.nz u b,?_⟩,s3,O,c,j,b0⟩
 ·rcases g2 x T with⟨y,V,e⟩|⟨u,b,e⟩
  ·rw[<-e];exact hm y V
  ·rw[e];exact a7 _ (G u b).1 (G u b).2
 ·refine⟨E*f.natAbs,A,by rw[Yi,ZH a C];omega,fun x T=> ?_⟩;have U:=g1.O1.Pf x T;rw[Ve,g3]at U;have p1:∃z:Int,Wc p (V2 x.2)*((E*f.natAbs:Nat):Rat)=(z:Rat)/\z.natAbs<=C*a:=by
   rcases Bm F.O1 x.2 with h|⟨u,b,-,h⟩
   ·exact⟨0,by rw[h,Rat.zero_mul];rfl,Zt _⟩
   ·obtain⟨z,z1,z2⟩:=e3 u (Zc _ b);refine⟨z*f.natAbs,by rw[h,Y9,<-Rat.mul_assoc,z1,Yg,YS],?_⟩;rw[Yf,Z3];exact ZU z2 a3
  have p2:∃z:Int,(XQ t d.1).1*(Wc d.2.2.1 fun k=>V2 x.2 (Xg k (XQ t d.1).2))*((E*f.natAbs:Nat):Rat)=(z:Rat)/\z.natAbs<=C*a:=by
   rcases kW hr.O1 (m:=(XQ t d.1).2) (n:=x.2) c with h|⟨u,b,-,h⟩
   ·exact⟨0,by rw[h,Rat.mul_zero,Rat.zero_mul];rfl,Zt _⟩
   ·obtain⟨y,J,L⟩:=q3 u (r u b);exact⟨_,by rw[h];exact Q J,N L⟩
  obtain⟨z1,z2,z3⟩:=p1;obtain⟨J,L,y3⟩:=p2;refine⟨z1-J,?_,?_⟩
  ·rw[<-U,Rat.intCast_sub,<-z2,<-L];grind
  ·rw[Yi,ZH a C];omega
 ·exact Sq.le i.k7 e1 a4 (by omega:E<=C*a) (by omega) s
 ·refine Bq.le A R g ?_ s;rw[Yf,Yf,S,ZZ,Z3];exact ZU a5 q2
 ·obtain⟨y,J,L⟩:=q3 u (r u b);have:=Q J;refine Sq.le (z:= -(e*zt*y)) i.k7 A ?_ g ?_ s
  ·rw[Rat.intCast_neg,<-this];grind
  ·rw[Int.natAbs_neg];exact N L
structure AG (o:List (List Int))(w:List Nat)(W:Nat)(l:List (List Nat)):Prop where
 dc:Ep o l
 AA:∀n∈l,OV w W n
 cl:∀δ∈l,∀n,OV w W n->WE o n δ->n∈l
theorem AG.tail {o:List (List Int)}{w:List Nat}{W:Nat}{i:List Nat}{l:List (List Nat)}(h:AG o w W (i::l)):AG o w W l:=by
 obtain⟨f,g⟩:=Zv.1 h.dc;have a:∀n∈l,OV w W n:=fun n c=>h.AA n (Zc _ c)
 refine⟨g,a,fun d e n c b=> ?_⟩;rcases Zj.1 (h.cl d (Zc _ e) n c b)with rfl|h1
 ·exact absurd b ((f d e).asymm (a d e).1 c.1)
 ·exact h1
structure QI (o:List (List Int))(ds:List Dv)(l:List (List Nat))(tq:List (List Qm)):Prop where
 len:tq.length=ds.length
 at_:∀(j:Nat) (q:List Qm) (d:Dv),tq[j]? =some q->ds[j]? =some d->Nz q/\Sz q/\(∀u∈q,∀x∈l,WE o x (Xg u.2 d.1.2))/\q.length+l.length<50000
structure RI (o:List (List Int))(ds:List Dv)(l:List (List Nat))(tr:List Qm):Prop where
 O1:Nz tr
 sz:Sz tr
 lt:∀u∈tr,∀x∈l,WE o x u.2
 len:tr.length+l.length<50000
 nd:∀u∈tr,∀d∈ds,WO d.1.2 u.2=false
theorem QI.sub {o:List (List Int)}{g:List Dv}{l f:List (List Nat)}{i:List (List Qm)}(h:QI o g l i)(n:∀x∈f,x∈l)(s:f.length<=l.length):QI o g f i:=
 ⟨h.len,fun j q d k m=>by
  obtain⟨a,b,c,e⟩:=h.at_ j q d k m;exact⟨a,b,fun u p x r=>c u p x (n x r),by omega⟩⟩
theorem RI.sub {o:List (List Int)}{b:List Dv}{l a:List (List Nat)}{c:List Qm}(h:RI o b l c)(d:∀x∈a,x∈l)(g:a.length<=l.length):RI o b a c:=
 ⟨h.O1,h.sz,fun u e x f=>h.lt u e x (d x f),by have:=h.len;omega,h.nd⟩
theorem tF {q:List Qm}{t:Qm}(h:Nz q)(h0:t.1≠0)(e:L8 t.2)(g:∀u∈q,u.2≠t.2):Nz (q++[t]):=by
 refine⟨?_,fun x c=> ?_,fun x c=> ?_⟩
 ·rw[List.map_append];refine List.nodup_append.2 ⟨h.nd,by simp,fun a f b d=> ?_⟩;obtain⟨u,i,rfl⟩:=ZQ.1 f;simp only[Zr,ZE,Zj,Z0,or_false]at d;subst d;exact g u i
 ·rcases Yc.1 c with c|c
  ·exact h.nz x c
  ·simp only[Zj,Z0,or_false]at c;subst c;exact h0
 ·rcases Yc.1 c with c|c
  ·exact h.q8 x c
  ·simp only[Zj,Z0,or_false]at c;subst c;exact e
theorem Sz.snoc {q:List Qm}{t:Qm}(h:Sz q)(b:Sq t.1):Sz (q++[t]):=fun x a=>by
 rcases Yc.1 a with a|a
 ·exact h x a
 ·simp only[Zj,Z0,or_false]at a;subst a;exact b
theorem nK {C a:Nat}(n:Nat):2*a*C*(2*a)^n*a=C*(2*a)^(n+1)*a:=by
 rw[ZK,ZH (2*a) C,Yi C,ZH ((2*a)^n)]
theorem Di {a:Nat}(h:1<=a)(n:Nat):1<=(2*a)^n:=Nat.pos_of_ne_zero (by
 intro e;have:=Nat.pow_eq_zero.1 e;omega)
theorem tw {C a:Nat}(h:1<=a)(n:Nat):C*(2*a)^n*a<=C*(2*a)^(n+1)*a:=by
 apply Zp;apply Z9;rw[ZK];exact YK _ (by omega)
theorem tx {C a:Nat}(h:1<=a)(n:Nat):C*a<=C*(2*a)^n*a:=by
 apply Zp;exact YK _ (Di h n)
theorem nL {o:List (List Int)}{w:List Nat}{W:Nat}{c:List Nat}{l:List (List Nat)}(d:AG o w W (c::l)){t:Qm}{p:List Qm}(i:PO o (t::p))(f:∀u∈t::p,u.2∈c::l):(∀u∈p,u.2∈l)/\(t.2≠c->∀u∈t::p,u.2∈l):=by
 have j:=(Zv.1 d.dc).1;have h:=d.AA c (Ze ..);have key:∀u∈p,u.2∈l:=fun u b=>by
  have a:=(Zv.1 i.pw).1 u b;rcases Zj.1 (f u (Zc _ b))with e|e
  ·rcases Zj.1 (f t (Ze ..))with e2|e2
   ·rw[e,e2]at a;exact absurd a WE.zh
   ·rw[e]at a;exact absurd a ((j _ e2).asymm (d.AA _ (Zc _ e2)).1 h.1)
  ·exact e
 refine⟨key,fun g u b=> ?_⟩;rcases Zj.1 b with rfl|b
 ·exact(Zj.1 (f u (Ze ..))).resolve_left g
 ·exact key u b
theorem bt {o:List (List Int)}{w:List Nat}{W a k:Nat}{fs:List (List Qm)}{B:List Dv}(v:Cx o w W a k fs B){tq:List (List Qm)}(r:∀q∈tq,Pw q):∀(l:List (List Nat)),AG o w W l->l.length<50000->∀{p:List Qm} {C:Nat},PO o p->(∀u∈p,u.2∈l)->Cf C p->1<=C->C*(2*a)^l.length*a<4294967296^k->
  ∃n b,aR o Sq Pw XE B true n p tq [] tq b/\((b=[]/\Sx o fs (fun n=>n∈l) fun m=>Wc p m)\/∃t A,b=[t]/\PO o (t::A)/\(∀u∈t::A,u.2∈l)/\(∀d∈B,WO d.1.2 t.2=false)/\Sx o fs (fun n=>n∈l) fun m=>Wc p m-Wc (t::A) m)
 |l,_,_,[],_,_,_,_,_,_=>⟨0,[],.done,.inl ⟨rfl,.zero fun m=>rfl⟩⟩
 |[],_,_,t::p,_,_,hm,_,_,_=>by have:=hm t (Ze ..);cases this
 |δ::l,hl,hln,t::p,C,hp,hm,hC,hC1,g=>by
  obtain⟨U,V⟩:=nL hl hp hm;have f:=hl.tail;have J:=hl.AA δ (Ze ..);have A:=(Zv.1 hl.dc).1;have R:=v.a1;simp only[Zi]at hln g;have y:=Z6 (tw (C:=C) R l.length) g;have z:=Z6 (tx (C:=C) R (l.length+1)) g;by_cases H:t.2=δ
  ·cases E:Tw t.2 B 0 with
   |none=>exact⟨1,[t],.yg rfl ⟨(fun _ h=>by cases h),by simp⟩ E,.inr ⟨t,p,rfl,hp,hm,TC E,.zero fun m=>by grind⟩⟩
   |some j=>
    obtain⟨d,X,F,T,Y⟩:=SY E;rw[Nat.sub_zero]at F;rw[H]at T;have x:=Zn F;have S:=step v J (fun n e=>(f.AA n e).1) A (fun n e i=>(Zj.1 (hl.cl δ (Ze ..) n e i)).resolve_left i.ne) f.dc (by omega) hp H U hC z hC1 x T;have G:1<=2*a*C:=Yn (by omega) hC1;obtain⟨n,b,K,L⟩:=bt v r l f (by omega) S.po S.mem S.cf G (by rw[nK];exact g);refine⟨n+1,b,.div S.c1 S.c3 S.c4 (S.c5.sq v.k7) S.c6 S.c7 S.c8 S.c9 r E F K,?_⟩;have D:=v.dv d x;rcases L with⟨rfl,s⟩|⟨Q,P,rfl,s,M,N,O⟩
    ·left;refine⟨rfl,Sx.add (c:=(XQ t d.1).1) D.mem D.ld S.m8 (by rw[S.ms];exact Ze ..) (s.mono fun n e=>Zc _ e) fun m=> ?_⟩;rw[S.eq]
    ·right;refine⟨Q,P,rfl,s,fun u I=>Zc _ (M u I),N,Sx.add (c:=(XQ t d.1).1) D.mem D.ld S.m8 (by rw[S.ms];exact Ze ..) (O.mono fun n e=>Zc _ e) fun m=> ?_⟩;rw[S.eq];grind
  ·obtain⟨n,b,K,L⟩:=bt v r l f (by omega) hp (V H) hC hC1 y;refine⟨n,b,K,?_⟩;rcases L with⟨rfl,s⟩|⟨Q,P,rfl,s,M,N,O⟩
   ·exact .inl ⟨rfl,s.mono fun n e=>Zc _ e⟩
   ·exact .inr ⟨Q,P,rfl,s,fun u I=>Zc _ (M u I),N,O.mono fun n e=>Zc _ e⟩
end Go.Proofs.YtidginchkjhobaaGreat
namespace Go.Num
open Go.Ev
theorem gE:∀{s t d:List Nat},s.length=d.length->t.length=d.length->WO s d=true->WO t d=true->WO (XD s t) d=true
 |[],_,_,_,_,_,_=>by simp[XD,WO]
 |_::_,[],_,_,_,_,_=>by simp[XD,WO]
 |a::s,b::t,[],h,_,_,_=>by simp at h
 |a::s,b::t,c::d,h1,h2,h3,h4=>by
  simp only[WO,Zs,decide_eq_true_eq]at h3 h4;have e:=gE (s:=s) (t:=t) (d:=d) (by simpa using h1) (by simpa using h2) h3.2 h4.2;unfold XD at e⊢;simp only[Zw,WO,e,Bool.and_true,decide_eq_true_eq];omega
theorem vY (s t:List Nat):XD s t=XD t s:=by
 unfold XD;rw[List.zipWith_comm];congr;funext a b;exact Nat.max_comm ..
theorem cS:∀{s t:List Nat},s.length=t.length->(∀x∈P2 s t,x=0)->XD s t=Xg s t
 |[],[],_,_=>rfl
 |[],_::_,h,_=>by simp at h
 |_::_,[],h,_=>by simp at h
 |a::s,b::t,h,hg=>by
  have c:=cS (s:=s) (t:=t) (by simpa using h) fun x d=>hg x (by simp only[P2,Zw];exact Zc _ d)
  have h0:=hg (min a b) (by simp only[P2,Zw];exact Ze ..);unfold XD Xg at c⊢;simp only[Zw,c];congr 1;omega
theorem gR:∀{s t:List Nat},s.length=t.length->X6 (Xg s t) s=t
 |[],[],_=>rfl
 |[],_::_,h=>by simp at h
 |_::_,[],h=>by simp at h
 |a::s,b::t,h=>by
  have c:=gR (s:=s) (t:=t) (by simpa using h);unfold X6 Xg at c⊢;simp only[Zw,c,Y7]
variable {o:List (List Int)}{w:List Nat}{fs:List (List Qm)}
def SB (o:List (List Int))(w:List Nat)(fs:List (List Qm))(f g:List Qm)(s t:Qm):Prop:=
 Sx o fs (fun n=>L8 n/\WT w n<=WT w (XD s.2 t.2)/\WE o n (XD s.2 t.2)) fun φ=>t.1*(Wc f fun n=>φ (Xg (X6 (XD s.2 t.2) s.2) n))-s.1*Wc g fun n=>φ (Xg (X6 (XD s.2 t.2) t.2) n)
theorem SB.sym {f g:List Qm}{s t:Qm}(h:SB o w fs f g s t):SB o w fs g f t s:=by
 unfold SB at h⊢;rw[vY t.2 s.2];exact(h.smul (-1)).congr fun a=>by grind
theorem SB.shift (q:∀f∈fs,Pl f){f g:List Qm}{s t:Qm}(c:L8 s.2)(d:L8 t.2)(h:SB o w fs f g s t){W:Nat}{i m k:List Nat}(j:L8 i/\WT w i<=W)(D:L8 m)(C:L8 k)(u:Xg m s.2=i)(v:Xg k t.2=i):
  Sx o fs (fun n=>(L8 n/\WT w n<=W)/\WE o n i) fun r=>t.1*(Wc f fun n=>r (Xg m n))-s.1*Wc g fun n=>r (Xg k n):=by
 have b:=No c d;have z:WO s.2 i=true:=by rw[<-u,XP];exact Qy ..
 have A:WO t.2 i=true:=by rw[<-v,XP];exact Qy ..
 have B:=gE (c.trans j.1.symm) (d.trans j.1.symm) z A;have e:L8 (X6 i (XD s.2 t.2)):=Vs j.1 b;have p:Xg (X6 i (XD s.2 t.2)) (XD s.2 t.2)=i:=by rw[XP];exact Un (b.trans j.1.symm) B
 have x:Xg (X6 (XD s.2 t.2) s.2) s.2=XD s.2 t.2:=by rw[XP];exact Un (c.trans b.symm) (TD _ _ (c.trans d.symm))
 have y:Xg (X6 (XD s.2 t.2) t.2) t.2=XD s.2 t.2:=by rw[XP];exact Un (d.trans b.symm) (Sr _ _ (c.trans d.symm))
 have e1:Xg (X6 i (XD s.2 t.2)) (X6 (XD s.2 t.2) s.2)=m:=by
  refine Ua (a:=s.2) (by rw[c,VU e (Vs b c)]) (c.trans D.symm) ?_;rw[XP s.2,UY,x,p,XP,u]
 have e2:Xg (X6 i (XD s.2 t.2)) (X6 (XD s.2 t.2) t.2)=k:=by
  refine Ua (a:=t.2) (by rw[d,VU e (Vs b d)]) (d.trans C.symm) ?_;rw[XP t.2,UY,y,p,XP,v]
 have E:WT w i=WT w (X6 i (XD s.2 t.2))+WT w (XD s.2 t.2):=by rw[<-Vn w (e.trans b.symm),p]
 refine(Sx.shift (Q:=fun n=>(L8 n/\WT w n<=W)/\WE o n i) e q h fun n l=>⟨⟨VU e l.1,?_⟩,?_⟩).congr fun r=> ?_
 ·rw[Vn w (e.trans l.1.symm)];have:=j.2;have:=l.2.1;omega
 ·have:=l.2.2.add e l.1 b
  rwa[p]at this
 ·simp only[<-UY,e1,e2]
theorem SB.coprime {f g l p:List Qm}{s t:Qm}(C:f∈fs)(D:g∈fs)(E:XU o f=some s)(F:XU o g=some t)(y:(s::l).Perm f)(z:(t::p).Perm g)(of:PO o (s::l))(v:PO o (t::p))(I:∀u∈f,WT w u.2<=WT w s.2)(J:∀u∈g,WT w u.2<=WT w t.2)
  (i:∀x∈P2 s.2 t.2,x=0):SB o w fs f g s t:=by
 have a:=of.q8 s (Ze ..);have b:=v.q8 t (Ze ..);have h:=cS (a.trans b.symm) i;have B:L8 (XD s.2 t.2):=No a b;have j:WT w (XD s.2 t.2)=WT w s.2+WT w t.2:=by rw[h,Vn w (a.trans b.symm)]
 have e1:X6 (XD s.2 t.2) s.2=t.2:=by rw[h];exact gR (a.trans b.symm)
 have e2:X6 (XD s.2 t.2) t.2=s.2:=by rw[h,XP];exact gR (b.trans a.symm)
 unfold SB;rw[e1,e2];have G:=Sx.prod (P:=fun n=>L8 n/\WT w n<=WT w (XD s.2 t.2)/\WE o n (XD s.2 t.2)) D F (q:=l) fun u e=>by
  have c:=of.q8 u (Zc _ e);have A:=I u (y.mem_iff.1 (Zc _ e));have r:=((Zv.1 of.pw).1 u e).add b c a;refine⟨c,VU c b,?_,?_⟩
  ·rw[Vn w (c.trans b.symm),j];omega
  ·rw[h,XP u.2,XP s.2];exact r
 have H:=Sx.prod (P:=fun n=>L8 n/\WT w n<=WT w (XD s.2 t.2)/\WE o n (XD s.2 t.2)) C E (q:=p) fun u e=>by
  have c:=v.q8 u (Zc _ e);have A:=J u (z.mem_iff.1 (Zc _ e));have r:=((Zv.1 v.pw).1 u e).add a c b;refine⟨c,VU c a,?_,?_⟩
  ·rw[Vn w (c.trans a.symm),j];omega
  ·rw[h,XP u.2];exact r
 refine(G.plus (H.smul (-1))).congr fun d=> ?_
 have K:(Wc g fun m=>Wc f fun k=>d (Xg m k))=Wc f fun m=>Wc g fun k=>d (Xg m k):=by
  rw[nG];exact U2 fun m _=>U2 fun k _=>by rw[XP]
 have L:(Wc g fun m=>Wc f fun k=>d (Xg m k))=t.1*(Wc f fun k=>d (Xg t.2 k))+Wc p fun m=>Wc f fun k=>d (Xg m k):=(N9 (φ:=fun m=>Wc f fun k=>d (Xg m k)) z).symm
 have x2:(Wc f fun m=>Wc g fun k=>d (Xg m k))=s.1*(Wc g fun k=>d (Xg s.2 k))+Wc l fun m=>Wc g fun k=>d (Xg m k):=(N9 (φ:=fun m=>Wc g fun k=>d (Xg m k)) y).symm
 grind
def FD (o:List (List Int))(w:List Nat)(W:Nat)(fs:List (List Qm)):Prop:=
 ∀v:Fn,Sx o fs (fun n=>L8 n/\WT w n<=W) v->(∀n,L8 n->v (V2 n)=0)\/∃δ f s,v (V2 δ)≠0/\L8 δ/\(∀n,L8 n->WE o δ n->v (V2 n)=0)/\f∈fs/\XU o f=some s/\WO s.2 δ=true
theorem oQ (q:w.length=8)(x:∀a∈w,0<a)(d:∀f∈fs,Pl f)(h:∀f∈fs,∀g∈fs,f≠g->∀s t,XU o f=some s->XU o g=some t->SB o w fs f g s t)(W:Nat):FD o w W fs:=by
 intro v D;have e:∀n∈SK o (allM w W),L8 n/\WT w n<=W:=fun n c=>by
  obtain⟨a,b⟩:=Ol (WZ.1 c) x;exact⟨a.trans q,b⟩
 rcases Sx.lead d (W:=fun n=>L8 n/\WT w n<=W) (fun n c=>c.1) (fun p y f z g A s t m k r l C B e1 e2=>by
  have i:=(XW (d f z) r).2.1;have u:=(XW (d g A) l).2.1;by_cases j:f=g
  ·subst j;rw[r]at l;cases l;have :m=k:=Ua (a:=s.2) (i.trans C.symm) (i.trans B.symm) (by rw[XP,e1,XP,e2]);subst this;exact .zero fun E=>by grind
  ·exact(h f z g A j s t r l).shift d i u y C B e1 e2)
  (SK o (allM w W)) e (NS fun n c=>(e n (WZ.2 c)).1) (fun p _ n c _=>WZ.2 (SP (q.trans c.1.symm) x c.2)) v (D.mono fun n c=>WZ.2 (SP (q.trans c.1.symm) x c.2))with h1|⟨p,f,s,h1,h2,h3,h4⟩
 ·exact .inl h1
 ·exact .inr ⟨p,f,s,h1,(e p h2).1,h3,h4⟩
theorem DB {W:Nat}(d:FD o w W fs){a:List Qm}(b:Nz a)(e:Sx o fs (fun n=>L8 n/\WT w n<=W) fun g=>Wc a g)(c:∀u∈a,∀f∈fs,∀s,XU o f=some s->WO s.2 u.2=false):a=[]:=by
 rcases d _ e with h|⟨δ,f,s,h1,h2,h3,h4,h5,h6⟩
 ·cases a with
  |nil=>rfl
  |cons t a=>
   have:=b.Pf t (Ze ..);rw[Ve,h _ (b.q8 t (Ze ..))]at this;exact absurd this.symm (b.nz t (Ze ..))
 ·have:=c _ (b.mem (m:=δ) h1) f h4 s h5;rw[h6]at this;cases this
theorem zw {W:Nat}(i:FD o w W fs){t:Qm}{p:List Qm}(a:PO o (t::p))(k:Sx o fs (fun n=>L8 n/\WT w n<=W) fun l=>Wc (t::p) l)(g:∀f∈fs,∀s,XU o f=some s->WO s.2 t.2=false):False:=by
 have c:=a.q8 t (Ze ..);have b:=a.O1.Pf t (Ze ..);rw[Ve]at b;rcases i _ k with h|⟨δ,f,s,h1,h2,h3,h4,h5,h6⟩
 ·rw[h _ c]at b;exact a.nz t (Ze ..) b.symm
 ·have j:=a.O1.mem (m:=δ) h1;have :δ=t.2:=by
   rcases Zj.1 j with e|e
   ·exact congrArg Prod.snd e
   ·have d:=(Zv.1 a.pw).1 _ e;have:=h3 t.2 c d;rw[this]at b;exact absurd b.symm (a.nz t (Ze ..))
  rw[this]at h6;rw[g f h4 s h5]at h6;cases h6
end Go.Num
