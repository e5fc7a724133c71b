/- One step of division by the program: plain facts. -/
import Derived.Test.YtefpgecinlekpaaGreatGr
import Derived.Test.YtefpgecinlekpaaGreatQBas
namespace Go.Proofs.YtefpgecinlekpaaGreat
open Go.Ev Go.Num
theorem Sq.of {x:Rat}{k:Nat}(hk:k<10000000)(h1:x.num.natAbs<4294967296^k)(h2:x.den<4294967296^k):Sq x:=by
 have:=WD h1
 have:=WD h2
 exact⟨by omega,by omega⟩
theorem Sq.le {x:Rat}{D k C:Nat}(hk:k<10000000)(hD:0<D){z:Int}(h:x*(D:Rat)=(z:Rat))(h1:D<=C)(h2:z.natAbs<=C)(hC:C<4294967296^k):Sq x:=by
 obtain⟨g1,g2⟩:=rat_size hD h
 exact Sq.of hk (by omega) (by omega)
theorem cf_sz {C k:Nat}{ts:List Qm}(hk:k<10000000)(h:Cf C ts)(hC:C<4294967296^k):Sz ts:=by
 obtain⟨D,h1,h2,h3⟩:=h
 intro t ht
 obtain⟨z,e,hz⟩:=h3 t ht
 exact Sq.le hk h1 e h2 hz hC
abbrev InW (w:List Nat)(W:Nat)(m:List Nat):Prop:=L8 m/\wtN w m<=W
theorem InW.ok {w m:List Nat}{W:Nat}(h:InW w W m)(h8:w.length=8)(hw:∀a∈w,0<a)(hW:W<=65535):XF m:=
 ⟨h.1,fun e he=>by have:=wtN_le (h8.trans h.1.symm) hw e he;have:=h.2;omega⟩
structure DvI (o:List (List Int))(w:List Nat)(a:Nat)(fs:List (List Qm))(d:Dv):Prop where
 mem:d.2.1∈fs
 pl:Pl d.2.1
 ld:WI o d.2.1=some d.1
 po:PO o (d.1::d.2.2.1)
 perm:(d.1::d.2.2.1).Perm d.2.1
 cd:∃k:Nat,0<k/\k<=a/\∀u∈d.2.1,∃y:Int,u.1*(k:Rat)=(y:Rat)/\y.natAbs<=a
 wl:∀u∈d.2.1,wtN w u.2<=wtN w d.1.2
 len:d.2.1.length<50000
structure Cx (o:List (List Int))(w:List Nat)(W a k:Nat)(fs:List (List Qm))(ds:List Dv):Prop where
 w8:w.length=8
 wp:∀x∈w,0<x
 W16:W<=65535
 dv:∀d∈ds,DvI o w a fs d
 a1:1<=a
 k7:k<10000000
 pls:∀f∈fs,Pl f
theorem prQ_atz {p:List Qm}(hp:Nz p)(n:List Nat):prQ p (Vo n)=0\/∃u∈p,u.2=n/\prQ p (Vo n)=u.1:=by
 by_cases h:prQ p (Vo n)=0
 ·exact .inl h
 ·exact .inr ⟨_,hp.mem (m:=n) h,rfl,rfl⟩
theorem prQ_atm:∀{q:List Qm},Nz q->∀{m n:List Nat},L8 m->(prQ q (fun k=>Vo n (Xh k m))=0\/∃u∈q,Xh u.2 m=n/\prQ q (fun k=>Vo n (Xh k m))=u.1)
 |[],_,_,_,_=>.inl rfl
 |u::q,h,m,n,hm=>by
  by_cases hu:Xh u.2 m=n
  ·right
   refine⟨u,Zh ..,hu,?_⟩
   have :prQ q (fun k=>Vo n (Xh k m))=0:=prQ_none fun x hx=>by
    unfold Vo
    rw[if_neg]
    intro e
    have hx8:=h.q8 x (Zc _ hx)
    have hu8:=h.q8 u (Zh ..)
    have :x.2=u.2:=by
     rw[<-hu,XE x.2,XE u.2]at e
     exact Ti (hm.trans hx8.symm) (hm.trans hu8.symm) e
    exact(List.nodup_cons.1 h.nd).1 (ZM.2 ⟨x,hx,this⟩)
   simp only[prQ,this]
   unfold Vo
   rw[if_pos hu];grind
  ·have e:prQ (u::q) (fun k=>Vo n (Xh k m))=prQ q (fun k=>Vo n (Xh k m)):=by
    simp only[prQ]
    have :Vo n (Xh u.2 m)=0:=by unfold Vo;rw[if_neg hu]
    rw[this];grind
   rw[e]
   rcases prQ_atm h.tail hm with h1|⟨x,hx,h1,h2⟩
   ·exact .inl h1
   ·exact .inr ⟨x,Zc _ hx,h1,h2⟩
theorem sgn_cast (y:Int)(h:y≠0):∃e:Int,((y.natAbs:Nat):Rat)=((e*y:Int):Rat)/\e.natAbs=1:=by
 rcases Int.natAbs_eq y with h1|h1
 ·exact⟨1,by rw[<-Rat.intCast_natCast,<-h1,Int.one_mul],rfl⟩
 ·refine⟨-1,?_,rfl⟩
  rw[<-Rat.intCast_natCast]
  congr 1;omega
structure StepI (o:List (List Int))(a C:Nat)(fs:List (List Qm))(δ:List Nat)(l:List (List Nat))(t:Qm)(p:List Qm)(d:Dv)(k:Nat):Prop where
 po:PO o (Uj o (-(XZ t d.1).1) (XZ t d.1).2 p d.2.2.1)
 mem:∀x∈Uj o (-(XZ t d.1).1) (XZ t d.1).2 p d.2.2.1,x.2∈l
 cf:Cf (2*a*C) (Uj o (-(XZ t d.1).1) (XZ t d.1).2 p d.2.2.1)
 c1:SzL p
 c3:Sq t.1
 c4:Sq d.1.1
 c5:Sq (XZ t d.1).1
 c6:SzL d.2.2.1
 c7:∀u∈d.2.2.1,XF (Xh u.2 (XZ t d.1).2)/\u.1≠0/\Sq (-(XZ t d.1).1*u.1)
 c8:d.1.1≠0
 c9:(XZ t d.1).1≠0
 m8:L8 (XZ t d.1).2
 ms:Xh (XZ t d.1).2 d.1.2=δ
 eq:∀φ,prQ (t::p) φ=prQ (Uj o (-(XZ t d.1).1) (XZ t d.1).2 p d.2.2.1) φ+(XZ t d.1).1*prQ d.2.1 fun n=>φ (Xh (XZ t d.1).2 n)
theorem step {o:List (List Int)}{w:List Nat}{W a k:Nat}{fs:List (List Qm)}{ds:List Dv}(cx:Cx o w W a k fs ds){δ:List Nat}{l:List (List Nat)}(hδ:InW w W δ)(hl8:∀n∈l,L8 n)(hlt:∀n∈l,LtO o n δ)(hcl:∀n,InW w W n->LtO o n δ->n∈l)(hll:DcM o l)(hln:l.length<50000)
  {t:Qm} {p:List Qm} (hp:PO o (t::p)) (ht:t.2=δ) (hm:∀u∈p,u.2∈l) {C:Nat} (hC:Cf C (t::p)) (hsz:C*a<4294967296^k) (hC1:1<=C) {d:Dv} (hd:d∈ds) (hdv:XU d.1.2 δ=true):StepI o a C fs δ l t p d k:=by
 have D:=cx.dv d hd
 have a1:=cx.a1
 obtain⟨s1,s2,s3,s4⟩:=XL D.pl D.ld
 have hms:Xh (XZ t d.1).2 d.1.2=δ:=by
  show Xh (Wv t.2 d.1.2) d.1.2=δ
  rw[XE,ht]
  exact Uy (s2.trans hδ.1.symm) hdv
 have hm8:L8 (XZ t d.1).2:=by
  show L8 (Wv t.2 d.1.2)
  rw[ht];exact VZ hδ.1 s2
 have hpt:=hp.tail
 have hr:=D.po.tail
 have hrm:∀u∈d.2.2.1,u∈d.2.1:=fun u hu=>D.perm.mem_iff.1 (Zc _ hu)
 have hqw:wtN w (XZ t d.1).2+wtN w d.1.2<=W:=by
  rw[<-UU w (hm8.trans s2.symm),hms];exact hδ.2
 have hrw:∀u∈d.2.2.1,InW w W (Xh u.2 (XZ t d.1).2)/\LtO o (Xh u.2 (XZ t d.1).2) δ:=fun u hu=>by
  have hu8:=hr.q8 u hu
  have h1:=D.wl u (hrm u hu)
  have h2:=(Zt.1 D.po.pw).1 u hu
  refine⟨⟨Tn hu8 hm8,by rw[UU w (hu8.trans hm8.symm)];omega⟩,?_⟩
  have:=h2.add hm8 hu8 s2
  rwa[hms,XE]at this
 have ht0:t.1≠0:=hp.nz t (Zh ..)
 have hc0:(XZ t d.1).1≠0:=by
  show t.1 / d.1.1≠0
  intro h
  have h1:t.1 / d.1.1*d.1.1=t.1:=Rat.div_mul_cancel s3
  rw[h,Rat.zero_mul]at h1
  exact ht0 h1.symm
 have hcs:(XZ t d.1).1*d.1.1=t.1:=Rat.div_mul_cancel s3
 have hn0: -(XZ t d.1).1≠0:=fun h=>hc0 (by rw[<-Rat.neg_neg (XZ t d.1).1,h];rfl)
 obtain⟨g1,g2,g3⟩:=subO_spec (o:=o) hn0 hm8 d.2.2.1 p hpt hr
 have heq:∀φ,prQ (t::p) φ=prQ (Uj o (-(XZ t d.1).1) (XZ t d.1).2 p d.2.2.1) φ+(XZ t d.1).1*prQ d.2.1 fun n=>φ (Xh (XZ t d.1).2 n):=fun φ=>by
  rw[g3,<-prQ_perm D.perm]
  simp only[prQ]
  rw[hms,ht]
  have e:(prQ d.2.2.1 fun n=>φ (Xh (XZ t d.1).2 n))=prQ d.2.2.1 fun k=>φ (Xh k (XZ t d.1).2):=Ub fun u _=>by rw[XE]
  rw[e,<-hcs];grind
 obtain⟨E,e1,e2,e3⟩:=hC
 obtain⟨q,q1,q2,q3⟩:=D.cd
 obtain⟨zt,zt1,zt2⟩:=e3 t (Zh ..)
 obtain⟨ys,ys1,ys2⟩:=q3 d.1 s1
 have hq0:(q:Rat)≠0:=by
  intro h
  have :q=0:=by exact_mod_cast h
  omega
 have hys:ys≠0:=by
  intro h
  rw[h]at ys1
  have :d.1.1*(q:Rat)=0:=ys1
  exact(Rat.mul_eq_zero.1 this).elim s3 hq0
 obtain⟨e,he1,he2⟩:=sgn_cast ys hys
 have hysp:0<ys.natAbs:=Int.natAbs_pos.2 hys
 have hD':0<E*ys.natAbs:=Nat.mul_pos e1 hysp
 have hD'le:E*ys.natAbs<=C*a:=Yz e2 ys2
 have hcast:((E*ys.natAbs:Nat):Rat)=(E:Rat)*((e:Rat)*(ys:Rat)):=by
  rw[Rat.natCast_mul,he1,Yl]
 have hcv:(XZ t d.1).1*((E*ys.natAbs:Nat):Rat)=((e*zt*(q:Int):Int):Rat):=by
  rw[hcast,Yl,Yl,Rat.intCast_natCast,<-zt1,<-hcs,<-ys1];grind
 have hcu:∀{u:Qm} {y:Int},u.1*(q:Rat)=(y:Rat)->(XZ t d.1).1*u.1*((E*ys.natAbs:Nat):Rat)=((e*zt*y:Int):Rat):=fun{u y} hy=>by
  have :(XZ t d.1).1*u.1*((E*ys.natAbs:Nat):Rat)=u.1*((XZ t d.1).1*((E*ys.natAbs:Nat):Rat)):=by grind
  rw[this,hcv,Yl,Yl,Yl,Yl,Rat.intCast_natCast,<-hy];grind
 have hab:∀{y:Int},y.natAbs<=a->(e*zt*y).natAbs<=C*a:=fun{y} hy=>by
  rw[Yi,Yi,he2,Z9]
  exact Yz zt2 hy
 have hCa:C<=C*a:=Nat.le_mul_of_pos_right _ a1
 have haC:a<=C*a:=Nat.le_mul_of_pos_left _ hC1
 have szp:Sz p:=cf_sz cx.k7 (C:=C) ⟨E,e1,e2,fun x hx=>e3 x (Zc _ hx)⟩ (by omega)
 have szf:∀u∈d.2.1,Sq u.1:=fun u hu=>by
  obtain⟨y,y1,y2⟩:=q3 u hu
  exact Sq.le cx.k7 q1 y1 (by omega:q<=C*a) (by omega) hsz
 have lenr:d.2.2.1.length<50000:=by
  have:=D.perm.length_eq
  have:=D.len
  simp only[Zi]at *;omega
 have lenp:p.length<50000:=by
  have:=PO.len_le hll hl8 hpt hm
  omega
 refine⟨g1,fun x hx=> ?_,?_,⟨szp,lenp⟩,?_,szf d.1 s1,?_,⟨fun u hu=>szf u (hrm u hu),lenr⟩,fun u hu=>⟨(hrw u hu).1.ok cx.w8 cx.wp cx.W16,hr.nz u hu,?_⟩,s3,hc0,hm8,hms,heq⟩
 ·rcases g2 x hx with⟨y,hy,e⟩|⟨u,hu,e⟩
  ·rw[<-e];exact hm y hy
  ·rw[e];exact hcl _ (hrw u hu).1 (hrw u hu).2
 ·refine⟨E*ys.natAbs,hD',by rw[Yj,ZE a C];omega,fun x hx=> ?_⟩
  have hx1:=g1.nzs.coefAt x hx
  rw[coef_eq,g3]at hx1
  have p1:∃z:Int,prQ p (Vo x.2)*((E*ys.natAbs:Nat):Rat)=(z:Rat)/\z.natAbs<=C*a:=by
   rcases prQ_atz hpt.nzs x.2 with h|⟨u,hu,-,h⟩
   ·exact⟨0,by rw[h,Rat.zero_mul];rfl,Zr _⟩
   ·obtain⟨z,z1,z2⟩:=e3 u (Zc _ hu)
    refine⟨z*ys.natAbs,by rw[h,Rat.natCast_mul,<-Rat.mul_assoc,z1,Yl,Rat.intCast_natCast],?_⟩
    rw[Yi,ZV]
    exact Yz z2 ys2
  have p2:∃z:Int,(XZ t d.1).1*(prQ d.2.2.1 fun k=>Vo x.2 (Xh k (XZ t d.1).2))*((E*ys.natAbs:Nat):Rat)=(z:Rat)/\z.natAbs<=C*a:=by
   rcases prQ_atm hr.nzs (m:=(XZ t d.1).2) (n:=x.2) hm8 with h|⟨u,hu,-,h⟩
   ·exact⟨0,by rw[h,Rat.mul_zero,Rat.zero_mul];rfl,Zr _⟩
   ·obtain⟨y,y1,y2⟩:=q3 u (hrm u hu)
    exact⟨_,by rw[h];exact hcu y1,hab y2⟩
  obtain⟨z1,z2,z3⟩:=p1
  obtain⟨y1,y2,y3⟩:=p2
  refine⟨z1-y1,?_,?_⟩
  ·rw[<-hx1,Rat.intCast_sub,<-z2,<-y2];grind
  ·rw[Yj,ZE a C];omega
 ·exact Sq.le cx.k7 e1 zt1 (by omega:E<=C*a) (by omega) hsz
 ·refine Sq.le cx.k7 hD' hcv hD'le ?_ hsz
  rw[Yi,Yi,he2,Z9,ZV]
  exact Yz zt2 q2
 ·obtain⟨y,y1,y2⟩:=q3 u (hrm u hu)
  have:=hcu y1
  refine Sq.le (z:= -(e*zt*y)) cx.k7 hD' ?_ hD'le ?_ hsz
  ·rw[Rat.intCast_neg,<-this];grind
  ·rw[Int.natAbs_neg];exact hab y2
structure LsI (o:List (List Int))(w:List Nat)(W:Nat)(l:List (List Nat)):Prop where
 dc:DcM o l
 inw:∀n∈l,InW w W n
 cl:∀δ∈l,∀n,InW w W n->LtO o n δ->n∈l
theorem LsI.tail {o:List (List Int)}{w:List Nat}{W:Nat}{δ:List Nat}{l:List (List Nat)}(h:LsI o w W (δ::l)):LsI o w W l:=by
 obtain⟨p1,p2⟩:=Zt.1 h.dc
 have hin:∀n∈l,InW w W n:=fun n hn=>h.inw n (Zc _ hn)
 refine⟨p2,hin,fun d hd n hn hlt=> ?_⟩
 rcases Zk.1 (h.cl d (Zc _ hd) n hn hlt)with rfl|h1
 ·exact absurd hlt ((p1 d hd).asymm (hin d hd).1 hn.1)
 ·exact h1
theorem pow_step {C a:Nat}(n:Nat):2*a*C*(2*a)^n*a=C*(2*a)^(n+1)*a:=by
 rw[ZD,ZE (2*a) C,Yj C,ZE ((2*a)^n)]
theorem pow_ge {a:Nat}(h:1<=a)(n:Nat):1<=(2*a)^n:=Nat.pos_of_ne_zero (by
 intro e
 have:=Nat.pow_eq_zero.1 e
 omega)
theorem pow_sub {C a:Nat}(h:1<=a)(n:Nat):C*(2*a)^n*a<=C*(2*a)^(n+1)*a:=by
 apply Zn
 apply Yq
 rw[ZD]
 exact Nat.le_mul_of_pos_right _ (by omega)
theorem pow_le1 {C a:Nat}(h:1<=a)(n:Nat):C*a<=C*(2*a)^n*a:=by
 apply Zn
 exact Nat.le_mul_of_pos_right _ (pow_ge h n)
theorem po_below {o:List (List Int)}{w:List Nat}{W:Nat}{δ:List Nat}{l:List (List Nat)}(hl:LsI o w W (δ::l)){t:Qm}{p:List Qm}(hp:PO o (t::p))(hm:∀u∈t::p,u.2∈δ::l):(∀u∈p,u.2∈l)/\(t.2≠δ->∀u∈t::p,u.2∈l):=by
 have p1:=(Zt.1 hl.dc).1
 have hδ:=hl.inw δ (Zh ..)
 have key:∀u∈p,u.2∈l:=fun u hu=>by
  have hlt:=(Zt.1 hp.pw).1 u hu
  rcases Zk.1 (hm u (Zc _ hu))with e|e
  ·rcases Zk.1 (hm t (Zh ..))with e2|e2
   ·rw[e,e2]at hlt;exact absurd hlt LtO.irr
   ·rw[e]at hlt
    exact absurd hlt ((p1 _ e2).asymm (hl.inw _ (Zc _ e2)).1 hδ.1)
  ·exact e
 refine⟨key,fun hne u hu=> ?_⟩
 rcases Zk.1 hu with rfl|hu
 ·exact(Zk.1 (hm u (Zh ..))).resolve_left hne
 ·exact key u hu
theorem run_first {o:List (List Int)}{w:List Nat}{W a k:Nat}{fs:List (List Qm)}{ds:List Dv}(cx:Cx o w W a k fs ds){tq:List (List Qm)}(htq:∀q∈tq,SzL q):∀(l:List (List Nat)),LsI o w W l->l.length<50000->∀{p:List Qm} {C:Nat},PO o p->(∀u∈p,u.2∈l)->Cf C p->1<=C->C*(2*a)^l.length*a<4294967296^k->
  ∃n tr',DivP o Sq SzL XF ds true n p tq [] tq tr'/\((tr'=[]/\Rep o fs (fun n=>n∈l) fun φ=>prQ p φ)\/∃t p1,tr'=[t]/\PO o (t::p1)/\(∀u∈t::p1,u.2∈l)/\(∀d∈ds,XU d.1.2 t.2=false)/\Rep o fs (fun n=>n∈l) fun φ=>prQ p φ-prQ (t::p1) φ)
 |l,_,_,[],_,_,_,_,_,_=>⟨0,[],.done,.inl ⟨rfl,.zero fun φ=>rfl⟩⟩
 |[],_,_,t::p,_,_,hm,_,_,_=>by have:=hm t (Zh ..);cases this
 |δ::l,hl,hln,t::p,C,hp,hm,hC,hC1,hsz=>by
  obtain⟨b1,b2⟩:=po_below hl hp hm
  have hlt:=hl.tail
  have hδ:=hl.inw δ (Zh ..)
  have p1:=(Zt.1 hl.dc).1
  have a1:=cx.a1
  simp only[Zi]at hln hsz
  have hsz':=Z5 (pow_sub (C:=C) a1 l.length) hsz
  have hsz1:=Z5 (pow_le1 (C:=C) a1 (l.length+1)) hsz
  by_cases ht:t.2=δ
  ·cases hf:Rb t.2 ds 0 with
   |none=>exact⟨1,[t],.rem1 rfl ⟨(fun _ h=>by cases h),by simp⟩ hf,.inr ⟨t,p,rfl,hp,hm,TY hf,.zero fun φ=>by grind⟩⟩
   |some j=>
    obtain⟨d,f1,f2,f3,f4⟩:=firstD_some hf
    rw[Nat.sub_zero]at f2
    rw[ht]at f3
    have hdm:=Zu f2
    have S:=step cx hδ (fun n hn=>(hlt.inw n hn).1) p1 (fun n hn hlt'=>(Zk.1 (hl.cl δ (Zh ..) n hn hlt')).resolve_left hlt'.ne) hlt.dc (by omega) hp ht b1 hC hsz1 hC1 hdm f3
    have hCn:1<=2*a*C:=Nat.mul_pos (by omega) hC1
    obtain⟨n,tr',k1,k2⟩:=run_first cx htq l hlt (by omega) S.po S.mem S.cf hCn (by rw[pow_step];exact hsz)
    refine⟨n+1,tr',.div S.c1 S.c3 S.c4 S.c5 S.c6 S.c7 S.c8 S.c9 htq hf f2 k1,?_⟩
    have D:=cx.dv d hdm
    rcases k2 with⟨rfl,k3⟩|⟨t1,p2,rfl,k3,k4,k5,k6⟩
    ·left
     refine⟨rfl,Rep.add (c:=(XZ t d.1).1) D.mem D.ld S.m8 (by rw[S.ms];exact Zh ..) (k3.mono fun n hn=>Zc _ hn) fun φ=> ?_⟩
     rw[S.eq]
    ·right
     refine⟨t1,p2,rfl,k3,fun u hu=>Zc _ (k4 u hu),k5,Rep.add (c:=(XZ t d.1).1) D.mem D.ld S.m8 (by rw[S.ms];exact Zh ..) (k6.mono fun n hn=>Zc _ hn) fun φ=> ?_⟩
     rw[S.eq];grind
  ·obtain⟨n,tr',k1,k2⟩:=run_first cx htq l hlt (by omega) hp (b2 ht) hC hC1 hsz'
   refine⟨n,tr',k1,?_⟩
   rcases k2 with⟨rfl,k3⟩|⟨t1,p2,rfl,k3,k4,k5,k6⟩
   ·exact .inl ⟨rfl,k3.mono fun n hn=>Zc _ hn⟩
   ·exact .inr ⟨t1,p2,rfl,k3,fun u hu=>Zc _ (k4 u hu),k5,k6.mono fun n hn=>Zc _ hn⟩
end Go.Proofs.YtefpgecinlekpaaGreat
namespace Go.Num
open Go.Ev
theorem divL_lcm:∀{s t d:List Nat},s.length=d.length->t.length=d.length->XU s d=true->XU t d=true->XU (X2 s t) d=true
 |[],_,_,_,_,_,_=>by simp[X2,XU]
 |_::_,[],_,_,_,_,_=>by simp[X2,XU]
 |a::s,b::t,[],h,_,_,_=>by simp at h
 |a::s,b::t,c::d,h1,h2,h3,h4=>by
  simp only[XU,Zo,decide_eq_true_eq]at h3 h4
  have ih:=divL_lcm (s:=s) (t:=t) (d:=d) (by simpa using h1) (by simpa using h2) h3.2 h4.2
  unfold X2 at ih⊢
  simp only[ZG,XU,ih,Bool.and_true,decide_eq_true_eq]
  omega
theorem lcmM_comm (s t:List Nat):X2 s t=X2 t s:=by
 unfold X2;rw[List.zipWith_comm];congr;funext a b;exact Nat.max_comm ..
theorem lcm_coprime:∀{s t:List Nat},s.length=t.length->(∀x∈gcdM s t,x=0)->X2 s t=Xh s t
 |[],[],_,_=>rfl
 |[],_::_,h,_=>by simp at h
 |_::_,[],h,_=>by simp at h
 |a::s,b::t,h,hg=>by
  have ih:=lcm_coprime (s:=s) (t:=t) (by simpa using h) fun x hx=>hg x (by simp only[gcdM,ZG];exact Zc _ hx)
  have h0:=hg (min a b) (by simp only[gcdM,ZG];exact Zh ..)
  unfold X2 Xh at ih⊢
  simp only[ZG,ih]
  congr 1;omega
theorem addM_sub:∀{s t:List Nat},s.length=t.length->Wv (Xh s t) s=t
 |[],[],_=>rfl
 |[],_::_,h=>by simp at h
 |_::_,[],h=>by simp at h
 |a::s,b::t,h=>by
  have ih:=addM_sub (s:=s) (t:=t) (by simpa using h)
  unfold Wv Xh at ih⊢
  simp only[ZG,ih,Yx]
variable {o:List (List Int)}{w:List Nat}{fs:List (List Qm)}
def SB (o:List (List Int))(w:List Nat)(fs:List (List Qm))(f g:List Qm)(s t:Qm):Prop:=
 Rep o fs (fun n=>L8 n/\wtN w n<=wtN w (X2 s.2 t.2)/\LtO o n (X2 s.2 t.2)) fun φ=>t.1*(prQ f fun n=>φ (Xh (Wv (X2 s.2 t.2) s.2) n))-s.1*prQ g fun n=>φ (Xh (Wv (X2 s.2 t.2) t.2) n)
theorem SB.sym {f g:List Qm}{s t:Qm}(h:SB o w fs f g s t):SB o w fs g f t s:=by
 unfold SB at h⊢
 rw[lcmM_comm t.2 s.2]
 exact(h.smul (-1)).congr fun φ=>by grind
theorem SB.shift (hfs:∀f∈fs,Pl f){f g:List Qm}{s t:Qm}(hs8:L8 s.2)(ht8:L8 t.2)(h:SB o w fs f g s t){W:Nat}{δ m k:List Nat}(hδ:L8 δ/\wtN w δ<=W)(hm:L8 m)(hk:L8 k)(h1:Xh m s.2=δ)(h2:Xh k t.2=δ):
  Rep o fs (fun n=>(L8 n/\wtN w n<=W)/\LtO o n δ) fun φ=>t.1*(prQ f fun n=>φ (Xh m n))-s.1*prQ g fun n=>φ (Xh k n):=by
 have hL8:=lcmM_8 hs8 ht8
 have d1:XU s.2 δ=true:=by rw[<-h1,XE];exact divL_sum ..
 have d2:XU t.2 δ=true:=by rw[<-h2,XE];exact divL_sum ..
 have dL:=divL_lcm (hs8.trans hδ.1.symm) (ht8.trans hδ.1.symm) d1 d2
 have hd8:L8 (Wv δ (X2 s.2 t.2)):=VZ hδ.1 hL8
 have eL:Xh (Wv δ (X2 s.2 t.2)) (X2 s.2 t.2)=δ:=by rw[XE];exact Uy (hL8.trans hδ.1.symm) dL
 have a1:Xh (Wv (X2 s.2 t.2) s.2) s.2=X2 s.2 t.2:=by rw[XE];exact Uy (hs8.trans hL8.symm) (SJ _ _ (hs8.trans ht8.symm))
 have a2:Xh (Wv (X2 s.2 t.2) t.2) t.2=X2 s.2 t.2:=by rw[XE];exact Uy (ht8.trans hL8.symm) (SI _ _ (hs8.trans ht8.symm))
 have e1:Xh (Wv δ (X2 s.2 t.2)) (Wv (X2 s.2 t.2) s.2)=m:=by
  refine Ti (a:=s.2) (by rw[hs8,Tn hd8 (VZ hL8 hs8)]) (hs8.trans hm.symm) ?_
  rw[XE s.2,UT,a1,eL,XE,h1]
 have e2:Xh (Wv δ (X2 s.2 t.2)) (Wv (X2 s.2 t.2) t.2)=k:=by
  refine Ti (a:=t.2) (by rw[ht8,Tn hd8 (VZ hL8 ht8)]) (ht8.trans hk.symm) ?_
  rw[XE t.2,UT,a2,eL,XE,h2]
 have hwL:wtN w δ=wtN w (Wv δ (X2 s.2 t.2))+wtN w (X2 s.2 t.2):=by rw[<-UU w (hd8.trans hL8.symm),eL]
 refine(Rep.shift (Q:=fun n=>(L8 n/\wtN w n<=W)/\LtO o n δ) hd8 hfs h fun n hn=>⟨⟨Tn hd8 hn.1,?_⟩,?_⟩).congr fun φ=> ?_
 ·rw[UU w (hd8.trans hn.1.symm)]
  have:=hδ.2
  have:=hn.2.1
  omega
 ·have:=hn.2.2.add hd8 hn.1 hL8
  rwa[eL]at this
 ·simp only[<-UT,e1,e2]
theorem SB.coprime {f g f' g':List Qm}{s t:Qm}(hf:f∈fs)(hg:g∈fs)(hs:WI o f=some s)(ht:WI o g=some t)(pf:(s::f').Perm f)(pg:(t::g').Perm g)(of:PO o (s::f'))(og:PO o (t::g'))(wf:∀u∈f,wtN w u.2<=wtN w s.2)(wg:∀u∈g,wtN w u.2<=wtN w t.2)
  (hgcd:∀x∈gcdM s.2 t.2,x=0):SB o w fs f g s t:=by
 have hs8:=of.q8 s (Zh ..)
 have ht8:=og.q8 t (Zh ..)
 have hL:=lcm_coprime (hs8.trans ht8.symm) hgcd
 have hL8:L8 (X2 s.2 t.2):=lcmM_8 hs8 ht8
 have hwL:wtN w (X2 s.2 t.2)=wtN w s.2+wtN w t.2:=by rw[hL,UU w (hs8.trans ht8.symm)]
 have e1:Wv (X2 s.2 t.2) s.2=t.2:=by rw[hL];exact addM_sub (hs8.trans ht8.symm)
 have e2:Wv (X2 s.2 t.2) t.2=s.2:=by rw[hL,XE];exact addM_sub (ht8.trans hs8.symm)
 unfold SB
 rw[e1,e2]
 have r1:=Rep.prod (P:=fun n=>L8 n/\wtN w n<=wtN w (X2 s.2 t.2)/\LtO o n (X2 s.2 t.2)) hg ht (q:=f') fun u hu=>by
  have hu8:=of.q8 u (Zc _ hu)
  have h1:=wf u (pf.mem_iff.1 (Zc _ hu))
  have h2:=((Zt.1 of.pw).1 u hu).add ht8 hu8 hs8
  refine⟨hu8,Tn hu8 ht8,?_,?_⟩
  ·rw[UU w (hu8.trans ht8.symm),hwL];omega
  ·rw[hL,XE u.2,XE s.2];exact h2
 have r2:=Rep.prod (P:=fun n=>L8 n/\wtN w n<=wtN w (X2 s.2 t.2)/\LtO o n (X2 s.2 t.2)) hf hs (q:=g') fun u hu=>by
  have hu8:=og.q8 u (Zc _ hu)
  have h1:=wg u (pg.mem_iff.1 (Zc _ hu))
  have h2:=((Zt.1 og.pw).1 u hu).add hs8 hu8 ht8
  refine⟨hu8,Tn hu8 hs8,?_,?_⟩
  ·rw[UU w (hu8.trans hs8.symm),hwL];omega
  ·rw[hL,XE u.2];exact h2
 refine(r1.plus (r2.smul (-1))).congr fun φ=> ?_
 have sw:(prQ g fun m=>prQ f fun k=>φ (Xh m k))=prQ f fun m=>prQ g fun k=>φ (Xh m k):=by
  rw[prQ_swap]
  exact Ub fun m _=>Ub fun k _=>by rw[XE]
 have x1:(prQ g fun m=>prQ f fun k=>φ (Xh m k))=t.1*(prQ f fun k=>φ (Xh t.2 k))+prQ g' fun m=>prQ f fun k=>φ (Xh m k):=(prQ_perm (φ:=fun m=>prQ f fun k=>φ (Xh m k)) pg).symm
 have x2:(prQ f fun m=>prQ g fun k=>φ (Xh m k))=s.1*(prQ g fun k=>φ (Xh s.2 k))+prQ f' fun m=>prQ g fun k=>φ (Xh m k):=(prQ_perm (φ:=fun m=>prQ g fun k=>φ (Xh m k)) pf).symm
 grind
def GBp (o:List (List Int))(w:List Nat)(W:Nat)(fs:List (List Qm)):Prop:=
 ∀v:Fn,Rep o fs (fun n=>L8 n/\wtN w n<=W) v->(∀n,L8 n->v (Vo n)=0)\/∃δ f s,v (Vo δ)≠0/\L8 δ/\(∀n,L8 n->LtO o δ n->v (Vo n)=0)/\f∈fs/\WI o f=some s/\XU s.2 δ=true
theorem gb_of_sb (h8:w.length=8)(hw:∀a∈w,0<a)(hfs:∀f∈fs,Pl f)(h:∀f∈fs,∀g∈fs,f≠g->∀s t,WI o f=some s->WI o g=some t->SB o w fs f g s t)(W:Nat):GBp o w W fs:=by
 intro v hv
 have hin:∀n∈Tz o (allM w W),L8 n/\wtN w n<=W:=fun n hn=>by
  obtain⟨a,b⟩:=allM_mem (Vd.1 hn) hw
  exact⟨a.trans h8,b⟩
 rcases Rep.lead hfs (W:=fun n=>L8 n/\wtN w n<=W) (fun n hn=>hn.1) (fun δ hδ f hf g hg s t m k hs ht hm hk e1 e2=>by
  have hs8:=(XL (hfs f hf) hs).2.1
  have ht8:=(XL (hfs g hg) ht).2.1
  by_cases hfg:f=g
  ·subst hfg
   rw[hs]at ht
   cases ht
   have :m=k:=Ti (a:=s.2) (hs8.trans hm.symm) (hs8.trans hk.symm) (by rw[XE,e1,XE,e2])
   subst this
   exact .zero fun φ=>by grind
  ·exact(h f hf g hg hfg s t hs ht).shift hfs hs8 ht8 hδ hm hk e1 e2)
  (Tz o (allM w W)) hin (sortM_dc fun n hn=>(hin n (Vd.2 hn)).1) (fun δ _ n hn _=>Vd.2 (mem_allM (h8.trans hn.1.symm) hw hn.2)) v (hv.mono fun n hn=>Vd.2 (mem_allM (h8.trans hn.1.symm) hw hn.2))with h1|⟨δ,f,s,h1,h2,h3,h4⟩
 ·exact .inl h1
 ·exact .inr ⟨δ,f,s,h1,(hin δ h2).1,h3,h4⟩
theorem gb_first {W:Nat}(hg:GBp o w W fs){t:Qm}{p:List Qm}(ht:PO o (t::p))(hr:Rep o fs (fun n=>L8 n/\wtN w n<=W) fun φ=>prQ (t::p) φ)(hd:∀f∈fs,∀s,WI o f=some s->XU s.2 t.2=false):False:=by
 have ht8:=ht.q8 t (Zh ..)
 have hc:=ht.nzs.coefAt t (Zh ..)
 rw[coef_eq]at hc
 rcases hg _ hr with h|⟨δ,f,s,h1,h2,h3,h4,h5,h6⟩
 ·rw[h _ ht8]at hc
  exact ht.nz t (Zh ..) hc.symm
 ·have hm:=ht.nzs.mem (m:=δ) h1
  have :δ=t.2:=by
   rcases Zk.1 hm with e|e
   ·exact congrArg Prod.snd e
   ·have hlt:=(Zt.1 ht.pw).1 _ e
    have:=h3 t.2 ht8 hlt
    rw[this]at hc
    exact absurd hc.symm (ht.nz t (Zh ..))
  rw[this]at h6
  rw[hd f h4 s h5]at h6;cases h6
end Go.Num
