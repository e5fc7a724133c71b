/- One step of division by the program: plain facts. -/
import Derived.Test.YtidginchkjhobaaGreatGr
import Derived.Test.YtidginchkjhobaaGreatQBas
namespace Go.Ev
open Go.Proofs.YtidginchkjhobaaGreat
theorem Sq.of {x}{k}(c:k<200000000000)(a:x.num.natAbs<4294967296^k)(b:x.den<4294967296^k):Sq x:=by
 have:=VF a;have:=VF b;exact⟨by omega,by omega⟩
def Bq (k:Nat)(x:Rat):Prop:=x.num.natAbs<4294967296^k/\x.den<4294967296^k
theorem Bq.sq {x}{k}(h:Bq k x)(a:k<200000000000):Sq x:=Sq.of a h.1 h.2
theorem Bq.le {x:Rat}{D k C:Nat}(a:0<D){z:Int}(h:x*(D:Rat)=(z:Rat))(d:D<=C)(e:z.natAbs<=C)(f:C<4294967296^k):Bq k x:=by
 obtain⟨b,c⟩:=Dw a h;exact⟨by omega,by omega⟩
theorem Sq.le {x:Rat}{D k C:Nat}(e:k<200000000000)(d:0<D){z:Int}(h:x*(D:Rat)=(z:Rat))(a:D<=C)(b:z.natAbs<=C)(c:C<4294967296^k):Sq x:=(Bq.le d h a b c).sq e
theorem Iy {C k:Nat}{a:I'}(f:k<200000000000)(h:Cf C a)(e:C<4294967296^k):Sz a:=by
 obtain⟨D,b,c,d⟩:=h;intro t g
 grind [Sq.le]
abbrev QJ (w:P')(W:Nat)(m:P'):Prop:=L8 m/\Wu w m<=W
theorem QJ.ok {w m}{W}(h:QJ w W m)(b:w.length=8)(d:∀a∈w,0<a)(f:W<=65535):XA m:=
 ⟨h.1,fun e c=>by have:=Ct (b.trans h.1.symm) d e c;have:=h.2;omega⟩
structure OL (o:M')(w:P')(a:Nat)(fs:S')(d:Dv):Prop where
 mem:d.2.1∈fs
 pl:Pl d.2.1
 ld:XB o d.2.1=some d.1
 po:PO o (d.1::d.2.2.1)
 perm:(d.1::d.2.2.1).Perm d.2.1
 cd:∃k:Nat,0<k/\k<=a/\∀u∈d.2.1,∃y:Int,u.1*(k:Rat)=(y:Rat)/\y.natAbs<=a
 wl:∀u∈d.2.1,Wu w u.2<=Wu w d.1.2
 len:d.2.1.length<50000
structure Cx (o:M')(w:P')(W a k:Nat)(fs:S')(ds:List Dv):Prop where
 w8:w.length=8
 wp:∀x∈w,0<x
 Y0:W<=65535
 dv:∀d∈ds,OL o w a fs d
 a1:1<=a
 k7:k<200000000000
 DQ:∀f∈fs,Pl f
theorem GZ {p}(a:Nz p)(n):XZ p (WJ n)=0\/∃u∈p,u.2=n/\XZ p (WJ n)=u.1:=by
 by_cases h:XZ p (WJ n)=0
 ·exact .inl h
 ·exact .inr ⟨_,a.mem (m:=n) h,rfl,rfl⟩
theorem pV:∀{q},Nz q->∀{m n},L8 m->(XZ q (fun k=>WJ n (Xg k m))=0\/∃u∈q,Xg u.2 m=n/\XZ q (fun k=>WJ n (Xg k m))=u.1)
 |[],_,_,_,_=>.inl rfl
 |u::q,h,m,n,hm=>by
  by_cases b:Xg u.2 m=n
  ·right;refine⟨u,Zc ..,b,?_⟩;have :XZ q (fun k=>WJ n (Xg k m))=0:=SK fun x a=>by
    unfold WJ;rw[if_neg];intro e;have d:=h.q8 x (Za _ a);have c:=h.q8 u (Zc ..);have :x.2=u.2:=by
     grind [XL,UH]
    exact(List.nodup_cons.1 h.nd).1 (ZM.2 ⟨x,a,this⟩)
   simp only[XZ,this]
   grind [WJ]
  ·have e:XZ (u::q) (fun k=>WJ n (Xg k m))=XZ q (fun k=>WJ n (Xg k m)):=by
    simp only[XZ]
    grind [WJ]
   rw[e];rcases pV h.tail hm with h1|⟨x,a,h1,h2⟩
   ·exact .inl h1
   grind
theorem jd (y)(h:y≠0):∃e:Int,((y.natAbs:Nat):Rat)=((e*y:Int):Rat)/\e.natAbs=1:=by
 rcases Int.natAbs_eq y with h1|h1
 ·exact⟨1,by grind [YF],rfl⟩
 ·refine⟨-1,?_,rfl⟩;rw[<-YF];congr 1;omega
structure LY (o:M')(a C:Nat)(fs:S')(δ:P')(l:J')(t:Qm)(p:I')(d:Dv)(k:Nat):Prop where
 po:PO o (T7 o (-(We t d.1).1) (We t d.1).2 p d.2.2.1)
 mem:∀x∈T7 o (-(We t d.1).1) (We t d.1).2 p d.2.2.1,x.2∈l
 cf:Cf (2*a*C) (T7 o (-(We t d.1).1) (We t d.1).2 p d.2.2.1)
 c1:Q4 p
 c3:Sq t.1
 c4:Sq d.1.1
 c5:Bq k (We t d.1).1
 c6:Q4 d.2.2.1
 c7:∀u∈d.2.2.1,XA (Xg u.2 (We t d.1).2)/\u.1≠0/\Sq (-(We t d.1).1*u.1)
 c8:d.1.1≠0
 c9:(We t d.1).1≠0
 m8:L8 (We t d.1).2
 ms:Xg (We t d.1).2 d.1.2=δ
 eq:∀φ,XZ (t::p) φ=XZ (T7 o (-(We t d.1).1) (We t d.1).2 p d.2.2.1) φ+(We t d.1).1*XZ d.2.1 fun n=>φ (Xg (We t d.1).2 n)
theorem step {o:M'}{w:P'}{W a k:Nat}{fs:S'}{ds:List Dv}(i:Cx o w W a k fs ds){s:P'}{l:J'}(c1:QJ w W s)(Y:∀n∈l,L8 n)(b7:∀n∈l,Wz o n s)(b1:∀n,QJ w W n->Wz o n s->n∈l)(Z:FY o l)(b6:l.length<50000)
  {t:Qm} {p:I'} (hp:PO o (t::p)) (ht:t.2=s) (hm:∀u∈p,u.2∈l) {C:Nat} (hC:Cf C (t::p)) (r:C*a<4294967296^k) (S:1<=C) {d:Dv} (hd:d∈ds) (b3:Ww d.1.2 s=true):LY o a C fs s l t p d k:=by
 have D:=i.dv d hd;have a1:=i.a1;obtain⟨s1,s2,s3,s4⟩:=Xy D.pl D.ld;have a0:Xg (We t d.1).2 d.1.2=s:=by
  show Xg (XO t.2 d.1.2) d.1.2=s
  grind [XL,WD]
 have g:L8 (We t d.1).2:=by
  show L8 (XO t.2 d.1.2)
  grind [Va]
 have A:=hp.tail;have M:=D.po.tail;have j:∀u∈d.2.2.1,u∈d.2.1:=fun u b=>D.perm.mem_iff.1 (Za _ b)
 have b9:Wu w (We t d.1).2+Wu w d.1.2<=W:=by
  grind [Wr]
 have a3:∀u∈d.2.2.1,QJ w W (Xg u.2 (We t d.1).2)/\Wz o (Xg u.2 (We t d.1).2) s:=fun u b=>by
  have G:=M.q8 u b;have h1:=D.wl u (j u b);have h2:=(Zu.1 D.po.pw).1 u b;refine⟨⟨Wo G g,by grind [Wr]⟩,?_⟩;have:=h2.add g G s2
  grind [XL]
 have c0:t.1≠0:=hp.nz t (Zc ..);have F:(We t d.1).1≠0:=by
  show t.1 / d.1.1≠0
  grind
 have b2:(We t d.1).1*d.1.1=t.1:=Rat.div_mul_cancel s3;have a2: -(We t d.1).1≠0:=fun h=>F (by grind)
 obtain⟨g1,g2,g3⟩:=nc (o:=o) a2 g d.2.2.1 p A M;have X:∀Q,XZ (t::p) Q=XZ (T7 o (-(We t d.1).1) (We t d.1).2 p d.2.2.1) Q+(We t d.1).1*XZ d.2.1 fun n=>Q (Xg (We t d.1).2 n):=fun Q=>by
  rw[g3,<-Pv D.perm]
  grind [XZ,Uy,XL]
 obtain⟨E,e1,e2,R⟩:=hC;obtain⟨q,q1,q2,O⟩:=D.cd;obtain⟨P,a7,c3⟩:=R t (Zc ..);obtain⟨c,c2,a6⟩:=O d.1 s1;have b8:(q:Rat)≠0:=by
  intro h;have :q=0:=by exact_mod_cast h
  omega
 have H:c≠0:=by
  intro h
  simp_all [Rat.mul_eq_zero]
 obtain⟨e,b4,b5⟩:=jd c H;have I:0<c.natAbs:=Int.natAbs_pos.2 H;have v:0<E*c.natAbs:=ZV e1 I;have f:E*c.natAbs<=C*a:=ZA e2 a6;have T:((E*c.natAbs:Nat):Rat)=(E:Rat)*((e:Rat)*(c:Rat)):=by
  grind
 have V:(We t d.1).1*((E*c.natAbs:Nat):Rat)=((e*P*(q:Int):Int):Rat):=by
  grind [YF]
 have U:∀{u:Qm} {y:Int},u.1*(q:Rat)=(y:Rat)->(We t d.1).1*u.1*((E*c.natAbs:Nat):Rat)=((e*P*y:Int):Rat):=fun{u y} hy=>by
  grind
 have b0:∀{y:Int},y.natAbs<=a->(e*P*y).natAbs<=C*a:=fun{y} hy=>by
  simp_all [Yp,ZA]
 have a8:C<=C*a:=Z1 _ a1;have a9:a<=C*a:=Yz _ S;have a5:Sz p:=Iy i.k7 (C:=C) ⟨E,e1,e2,fun x N=>R x (Za _ N)⟩ (by omega);have L:∀u∈d.2.1,Sq u.1:=fun u b=>by
  obtain⟨y,B,y2⟩:=O u b;exact Sq.le i.k7 q1 B (by omega:q<=C*a) (by omega) r
 have K:d.2.2.1.length<50000:=by
  have:=D.perm.length_eq;have:=D.len
  grind
 have J:p.length<50000:=by
  have:=PO.eI Z Y A hm;omega
 refine⟨g1,fun x N=> ?_,?_,⟨a5,J⟩,?_,L d.1 s1,?_,⟨fun u b=>L u (j u b),K⟩,fun u b=>⟨(a3 u b).1.ok i.w8 i.wp i.Y0,M.nz u b,?_⟩,s3,F,g,a0,X⟩
 ·grind
 ·refine⟨E*c.natAbs,v,by grind,fun x N=> ?_⟩;have a4:=g1.Sk.U4 x N;rw[Wm,g3]at a4;have p1:∃z:Int,XZ p (WJ x.2)*((E*c.natAbs:Nat):Rat)=(z:Rat)/\z.natAbs<=C*a:=by
   rcases GZ A.Sk x.2 with h|⟨u,b,-,h⟩
   ·exact⟨0,by grind,Zw _⟩
   ·obtain⟨z,z1,z2⟩:=R u (Za _ b);refine⟨z*c.natAbs,by grind [YF],?_⟩
    simp_all [Yp,ZA]
  have p2:∃z:Int,(We t d.1).1*(XZ d.2.2.1 fun k=>WJ x.2 (Xg k (We t d.1).2))*((E*c.natAbs:Nat):Rat)=(z:Rat)/\z.natAbs<=C*a:=by
   rcases pV M.Sk (m:=(We t d.1).2) (n:=x.2) g with h|⟨u,b,-,h⟩
   ·exact⟨0,by grind,Zw _⟩
   ·obtain⟨y,B,y2⟩:=O u (j u b)
    grind
  obtain⟨z1,z2,z3⟩:=p1;obtain⟨B,y2,y3⟩:=p2;refine⟨z1-B,?_,?_⟩
  ·grind
  grind
 ·exact Sq.le i.k7 e1 a7 (by omega:E<=C*a) (by omega) r
 ·refine Bq.le v V f ?_ r
  grind
 ·obtain⟨y,B,y2⟩:=O u (j u b);have:=U B;refine Sq.le (z:= -(e*P*y)) i.k7 v ?_ f ?_ r
  ·grind
  grind
structure F7 (o:M')(w:P')(W:Nat)(l:J'):Prop where
 dc:FY o l
 wY:∀n∈l,QJ w W n
 cl:∀δ∈l,∀n,QJ w W n->Wz o n δ->n∈l
theorem F7.tail {o}{w}{W}{i}{l}(h:F7 o w W (i::l)):F7 o w W l:=by
 obtain⟨f,g⟩:=Zu.1 h.dc;have a:∀n∈l,QJ w W n:=fun n c=>h.wY n (Za _ c)
 refine⟨g,a,fun d e n c b=> ?_⟩;rcases Zk.1 (h.cl d (Za _ e) n c b)with rfl|h1
 ·exact absurd b ((f d e).asymm (a d e).1 c.1)
 ·exact h1
structure QI (o:M')(ds:List Dv)(l:J')(tq:S'):Prop where
 len:tq.length=ds.length
 at_:∀(j:Nat) (q:I') (d:Dv),tq[j]? =some q->ds[j]? =some d->Nz q/\Sz q/\(∀u∈q,∀x∈l,Wz o x (Xg u.2 d.1.2))/\q.length+l.length<50000
structure RI (o:M')(ds:List Dv)(l:J')(tr:I'):Prop where
 Sk:Nz tr
 sz:Sz tr
 lt:∀u∈tr,∀x∈l,Wz o x u.2
 len:tr.length+l.length<50000
 nd:∀u∈tr,∀d∈ds,Ww d.1.2 u.2=false
theorem QI.sub {o}{g}{l f}{i}(h:QI o g l i)(p:∀x∈f,x∈l)(n:f.length<=l.length):QI o g f i:=
 ⟨h.len,fun j q d k m=>by
  obtain⟨a,b,c,e⟩:=h.at_ j q d k m
  grind⟩
theorem RI.sub {o}{b}{l a}{c}(h:RI o b l c)(d:∀x∈a,x∈l)(g:a.length<=l.length):RI o b a c:=
 ⟨h.Sk,h.sz,fun u e x f=>h.lt u e x (d x f),by have:=h.len;omega,h.nd⟩
theorem yN {q}{t}(h:Nz q)(h0:t.1≠0)(d:L8 t.2)(g:∀u∈q,u.2≠t.2):Nz (q++[t]):=by
 refine⟨?_,fun x c=> ?_,fun x c=> ?_⟩
 ·rw[List.map_append];refine List.nodup_append.2 ⟨h.nd,by simp,fun a e b f=> ?_⟩
  grind
 ·rcases ZS.1 c with c|c
  ·exact h.nz x c
  grind
 ·rcases ZS.1 c with c|c
  ·exact h.q8 x c
  grind
theorem Sz.snoc {q}{t}(h:Sz q)(b:Sq t.1):Sz (q++[t]):=fun x a=>by
 rcases ZS.1 a with a|a
 ·exact h x a
 grind
theorem tx {C a}(n):2*a*C*(2*a)^n*a=C*(2*a)^(n+1)*a:=by grind
theorem Jp {a}(h:1<=a)(n):1<=(2*a)^n:=by grind [Nat.pow_eq_zero]
theorem yC {C a}(h:1<=a)(n):C*(2*a)^n*a<=C*(2*a)^(n+1)*a:=by
 apply Zm;apply ZE;rw[ZI];exact Z1 _ (by omega)
theorem yD {C a}(h:1<=a)(n):C*a<=C*(2*a)^n*a:=by
 apply Zm;exact Z1 _ (Jp h n)
theorem tz {o}{w}{W}{b}{l}(c:F7 o w W (b::l)){t}{p}(h:PO o (t::p))(f:∀u∈t::p,u.2∈b::l):(∀u∈p,u.2∈l)/\(t.2≠b->∀u∈t::p,u.2∈l):=by
 have i:=(Zu.1 c.dc).1;have d:=c.wY b (Zc ..);have key:∀u∈p,u.2∈l:=fun u g=>by
  have a:=(Zu.1 h.pw).1 u g;rcases Zk.1 (f u (Za _ g))with e|e
  ·rcases Zk.1 (f t (Zc ..))with e2|e2
   ·grind [Wz.vD]
   ·rw[e]at a;exact absurd a ((i _ e2).asymm (c.wY _ (Za _ e2)).1 d.1)
  ·exact e
 grind
theorem eb {o}{w}{W a k}{fs}{B}(v:Cx o w W a k fs B){tq}(r:∀q∈tq,Q4 q):∀l,F7 o w W l->l.length<50000->∀{p} {C},PO o p->(∀u∈p,u.2∈l)->Cf C p->1<=C->C*(2*a)^l.length*a<4294967296^k->
  ∃n b,dI o Sq Q4 XA B true n p tq [] tq b/\((b=[]/\UP o fs (fun n=>n∈l) fun m=>XZ p m)\/∃t A,b=[t]/\PO o (t::A)/\(∀u∈t::A,u.2∈l)/\(∀d∈B,Ww d.1.2 t.2=false)/\UP o fs (fun n=>n∈l) fun m=>XZ p m-XZ (t::A) m)
 |l,_,_,[],_,_,_,_,_,_=>⟨0,[],.done,.inl ⟨rfl,.zero fun m=>rfl⟩⟩
 |[],_,_,t::p,_,_,hm,_,_,_=>by grind
 |δ::l,hl,hln,t::p,C,hp,hm,hC,hC1,g=>by
  obtain⟨U,V⟩:=tz hl hp hm;have f:=hl.tail;have J:=hl.wY δ (Zc ..);have A:=(Zu.1 hl.dc).1;have R:=v.a1;simp only[Zj]at hln g;have y:=Z2 (yC (C:=C) R l.length) g;have z:=Z2 (yD (C:=C) R (l.length+1)) g;by_cases H:t.2=δ
  ·cases E:Sc t.2 B 0 with
   |none=>exact⟨1,[t],.Dr rfl ⟨(fun _ h=>by cases h),by simp⟩ E,.inr ⟨t,p,rfl,hp,hm,Ss E,.zero fun m=>by grind⟩⟩
   |some j=>
    obtain⟨d,X,F,T,Y⟩:=RN E;rw[Nat.sub_zero]at F;rw[H]at T;have x:=Zh F;have S:=step v J (fun n e=>(f.wY n e).1) A (fun n e i=>(Zk.1 (hl.cl δ (Zc ..) n e i)).resolve_left i.ne) f.dc (by omega) hp H U hC z hC1 x T;have G:1<=2*a*C:=ZV (by omega) hC1;obtain⟨n,b,K,L⟩:=eb v r l f (by omega) S.po S.mem S.cf G (by rw[tx];exact g);refine⟨n+1,b,.div S.c1 S.c3 S.c4 (S.c5.sq v.k7) S.c6 S.c7 S.c8 S.c9 r E F K,?_⟩;have D:=v.dv d x;rcases L with⟨rfl,s⟩|⟨Q,P,rfl,s,M,N,O⟩
    ·left;refine⟨rfl,UP.add (c:=(We t d.1).1) D.mem D.ld S.m8 (by rw[S.ms];grind) (s.mono fun n e=>Za _ e) fun m=> ?_⟩;rw[S.eq]
    ·right;refine⟨Q,P,rfl,s,fun u I=>Za _ (M u I),N,UP.add (c:=(We t d.1).1) D.mem D.ld S.m8 (by rw[S.ms];grind) (O.mono fun n e=>Za _ e) fun m=> ?_⟩;rw[S.eq];grind
  ·obtain⟨n,b,K,L⟩:=eb v r l f (by omega) hp (V H) hC hC1 y;refine⟨n,b,K,?_⟩;rcases L with⟨rfl,s⟩|⟨Q,P,rfl,s,M,N,O⟩
   ·exact .inl ⟨rfl,s.mono fun n e=>Za _ e⟩
   ·exact .inr ⟨Q,P,rfl,s,fun u I=>Za _ (M u I),N,O.mono fun n e=>Za _ e⟩
theorem kY:∀{s t d},s.length=d.length->t.length=d.length->Ww s d=true->Ww t d=true->Ww (XM s t) d=true
 |[],_,_,_,_,_,_=>by simp[XM,Ww]
 |_::_,[],_,_,_,_,_=>by simp[XM,Ww]
 |a::s,b::t,[],h,_,_,_=>by simp at h
 |a::s,b::t,c::d,h1,h2,h3,h4=>by
  simp only[Ww,Zs,decide_eq_true_eq]at h3 h4;have e:=kY (s:=s) (t:=t) (d:=d) (by simpa using h1) (by simpa using h2) h3.2 h4.2;unfold XM at e⊢;simp only[Zz,Ww,e,Bool.and_true,decide_eq_true_eq];omega
theorem Bm (s t):XM s t=XM t s:=by grind [XM,List.zipWith_comm]
theorem fX:∀{s t},s.length=t.length->(∀x∈Pb s t,x=0)->XM s t=Xg s t
 |[],[],_,_=>rfl
 |[],_::_,h,_=>by simp at h
 |_::_,[],h,_=>by simp at h
 |a::s,b::t,h,hg=>by
  have d:=fX (s:=s) (t:=t) (by simpa using h) fun x c=>hg x (by grind [Pb,Zz])
  grind [Pb,Zz,Zc,XM,Xg]
theorem lM:∀{s t},s.length=t.length->XO (Xg s t) s=t
 |[],[],_=>rfl
 |[],_::_,h=>by simp at h
 |_::_,[],h=>by simp at h
 |a::s,b::t,h=>by
  have c:=lM (s:=s) (t:=t) (by simpa using h)
  grind [XO,Xg,Zz]
variable {o:M'}{w:P'}{fs:S'}
def SB (o:M')(w:P')(fs:S')(f g:I')(s t:Qm):Prop:=
 UP o fs (fun n=>L8 n/\Wu w n<=Wu w (XM s.2 t.2)/\Wz o n (XM s.2 t.2)) fun φ=>t.1*(XZ f fun n=>φ (Xg (XO (XM s.2 t.2) s.2) n))-s.1*XZ g fun n=>φ (Xg (XO (XM s.2 t.2) t.2) n)
theorem SB.sym {f g}{s t}(h:SB o w fs f g s t):SB o w fs g f t s:=by
 unfold SB at h⊢;rw[Bm t.2 s.2];exact(h.smul (-1)).congr fun a=>by grind
theorem SB.shift (l:∀f∈fs,Pl f){f g}{s t}(d:L8 s.2)(e:L8 t.2)(h:SB o w fs f g s t){W}{b m k}(i:L8 b/\Wu w b<=W)(y:L8 m)(x:L8 k)(D:Xg m s.2=b)(E:Xg k t.2=b):
  UP o fs (fun n=>(L8 n/\Wu w n<=W)/\Wz o n b) fun q=>t.1*(XZ f fun n=>q (Xg m n))-s.1*XZ g fun n=>q (Xg k n):=by
 have j:=Q9 d e;have r:Ww s.2 b=true:=by grind [XL,TW]
 have u:Ww t.2 b=true:=by grind [XL,TW]
 have C:=kY (d.trans i.1.symm) (e.trans i.1.symm) r u;have c:L8 (XO b (XM s.2 t.2)):=Va i.1 j;have v:Xg (XO b (XM s.2 t.2)) (XM s.2 t.2)=b:=by grind [XL,WD]
 have A:Xg (XO (XM s.2 t.2) s.2) s.2=XM s.2 t.2:=by grind [XL,WD,TC]
 have B:Xg (XO (XM s.2 t.2) t.2) t.2=XM s.2 t.2:=by grind [XL,WD,Sv]
 have e1:Xg (XO b (XM s.2 t.2)) (XO (XM s.2 t.2) s.2)=m:=by
  refine UH (a:=s.2) (by grind [Wo,Va]) (d.trans y.symm) ?_
  grind [XL,Vj]
 have e2:Xg (XO b (XM s.2 t.2)) (XO (XM s.2 t.2) t.2)=k:=by
  refine UH (a:=t.2) (by grind [Wo,Va]) (e.trans x.symm) ?_
  grind [XL,Vj]
 have z:Wu w b=Wu w (XO b (XM s.2 t.2))+Wu w (XM s.2 t.2):=by grind [Wr]
 refine(UP.shift (Q:=fun n=>(L8 n/\Wu w n<=W)/\Wz o n b) c l h fun n p=>⟨⟨Wo c p.1,?_⟩,?_⟩).congr fun q=> ?_
 ·grind [Wr]
 ·have:=p.2.2.add c p.1 j
  rwa[v]at this
 grind [Vj]
theorem SB.coprime {f g i j}{s t}(A:f∈fs)(B:g∈fs)(C:XB o f=some s)(D:XB o g=some t)(p:(s::i).Perm f)(r:(t::j).Perm g)(of:PO o (s::i))(l:PO o (t::j))(H:∀u∈f,Wu w u.2<=Wu w s.2)(I:∀u∈g,Wu w u.2<=Wu w t.2)
  (h:∀x∈Pb s.2 t.2,x=0):SB o w fs f g s t:=by
 have b:=of.q8 s (Zc ..);have c:=l.q8 t (Zc ..);have J:=fX (b.trans c.symm) h;have z:L8 (XM s.2 t.2):=Q9 b c;have E:Wu w (XM s.2 t.2)=Wu w s.2+Wu w t.2:=by grind [Wr]
 have e1:XO (XM s.2 t.2) s.2=t.2:=by grind [lM]
 have e2:XO (XM s.2 t.2) t.2=s.2:=by grind [XL,lM]
 unfold SB;rw[e1,e2];have F:=UP.prod (P:=fun n=>L8 n/\Wu w n<=Wu w (XM s.2 t.2)/\Wz o n (XM s.2 t.2)) B D (q:=i) fun u d=>by
  have e:=of.q8 u (Za _ d);have v:=H u (p.mem_iff.1 (Za _ d));have y:=((Zu.1 of.pw).1 u d).add c e b
  grind [Wo,Wr,XL]
 have G:=UP.prod (P:=fun n=>L8 n/\Wu w n<=Wu w (XM s.2 t.2)/\Wz o n (XM s.2 t.2)) A C (q:=j) fun u d=>by
  have e:=l.q8 u (Za _ d);have v:=I u (r.mem_iff.1 (Za _ d));have y:=((Zu.1 l.pw).1 u d).add b e c
  grind [Wo,Wr,XL]
 refine(F.plus (G.smul (-1))).congr fun a=> ?_
 have K:(XZ g fun m=>XZ f fun k=>a (Xg m k))=XZ f fun m=>XZ g fun k=>a (Xg m k):=by
  rw[jx]
  grind [XL]
 have L:(XZ g fun m=>XZ f fun k=>a (Xg m k))=t.1*(XZ f fun k=>a (Xg t.2 k))+XZ j fun m=>XZ f fun k=>a (Xg m k):=(Pv (φ:=fun m=>XZ f fun k=>a (Xg m k)) r).symm
 have x2:(XZ f fun m=>XZ g fun k=>a (Xg m k))=s.1*(XZ g fun k=>a (Xg s.2 k))+XZ i fun m=>XZ g fun k=>a (Xg m k):=(Pv (φ:=fun m=>XZ g fun k=>a (Xg m k)) p).symm
 grind
def IF (o:M')(w:P')(W:Nat)(fs:S'):Prop:=
 ∀v:Fn,UP o fs (fun n=>L8 n/\Wu w n<=W) v->(∀n,L8 n->v (WJ n)=0)\/∃δ f s,v (WJ δ)≠0/\L8 δ/\(∀n,L8 n->Wz o δ n->v (WJ n)=0)/\f∈fs/\XB o f=some s/\Ww s.2 δ=true
theorem EO (x:w.length=8)(r:∀a∈w,0<a)(d:∀f∈fs,Pl f)(h:∀f∈fs,∀g∈fs,f≠g->∀s t,XB o f=some s->XB o g=some t->SB o w fs f g s t)(W):IF o w W fs:=by
 intro v D;have j:∀n∈TQ o (allM w W),L8 n/\Wu w n<=W:=fun n c=>by
  obtain⟨a,b⟩:=NH (WU.1 c) r;omega
 rcases UP.lead d (W:=fun n=>L8 n/\Wu w n<=W) (fun n c=>c.1) (fun C u f y g z s t m k p l B A e1 e2=>by
  have e:=(Xy (d f y) p).2.1;have q:=(Xy (d g z) l).2.1;by_cases i:f=g
  ·subst i;rw[p]at l;cases l;have :m=k:=UH (a:=s.2) (e.trans B.symm) (e.trans A.symm) (by grind [XL]);subst this;exact .zero fun E=>by grind
  ·exact(h f y g z i s t p l).shift d e q u B A e1 e2)
  (TQ o (allM w W)) j (bP fun n c=>(j n (WU.2 c)).1) (fun C _ n c _=>WU.2 (To (x.trans c.1.symm) r c.2)) v (D.mono fun n c=>WU.2 (To (x.trans c.1.symm) r c.2))with h1|⟨C,f,s,h1,h2,h3,h4⟩
 ·exact .inl h1
 grind
theorem JQ {W}(d:IF o w W fs){a}(b:Nz a)(e:UP o fs (fun n=>L8 n/\Wu w n<=W) fun g=>XZ a g)(c:∀u∈a,∀f∈fs,∀s,XB o f=some s->Ww s.2 u.2=false):a=[]:=by
 rcases d _ e with h|⟨δ,f,s,h1,h2,h3,h4,h5,h6⟩
 ·cases a with
  |nil=>rfl
  |cons t a=>
   have:=b.U4 t (Zc ..);rw[Wm,h _ (b.q8 t (Zc ..))]at this;exact absurd this.symm (b.nz t (Zc ..))
 ·have:=c _ (b.mem (m:=δ) h1) f h4 s h5
  grind
theorem EP {W}(g:IF o w W fs){t}{p}(a:PO o (t::p))(j:UP o fs (fun n=>L8 n/\Wu w n<=W) fun k=>XZ (t::p) k)(l:∀f∈fs,∀s,XB o f=some s->Ww s.2 t.2=false):False:=by
 have c:=a.q8 t (Zc ..);have b:=a.Sk.U4 t (Zc ..);rw[Wm]at b;rcases g _ j with h|⟨δ,f,s,h1,h2,h3,h4,h5,h6⟩
 ·rw[h _ c]at b;exact a.nz t (Zc ..) b.symm
 ·have i:=a.Sk.mem (m:=δ) h1;have :δ=t.2:=by
   rcases Zk.1 i with e|e
   ·grind
   ·have d:=(Zu.1 a.pw).1 _ e;have:=h3 t.2 c d;rw[this]at b;exact absurd b.symm (a.nz t (Zc ..))
  grind
