/- S-polynomials of divisors, what IsBasis answers: plain facts. -/
import Derived.Test.YtidginchkjhobaaGreatRDv
namespace Go.Proofs.YtidginchkjhobaaGreat
open Go.Ev Go.Num
theorem VJ {z:Rat}(b:z≠0){m:P'}(a:L8 m){f:Z'}(h:Pl f):Pl (XG z m f):=⟨ee b a h.q8 h.dc,V9 a h.q8⟩
theorem zf {f:Z'}(h:Q8 f):Wu f=XG (-1) zM f:=by
 unfold Wu X1 XG;exact List.map_congr_left fun t a=>by rw[Qb (h t a)]
theorem VH {f:Z'}(h:Pl f):Pl (Wu f):=by
 rw[zf h.q8];exact VJ (by decide) rfl h
variable {o:M'}{w:P'}{a:Nat}{fs:S'}{d e:Dv}
abbrev Pn (d e:Dv):P':=XJ d.1.2 e.1.2
theorem Ol.s8 (h:Ol o w a fs d):L8 d.1.2:=(XK h.pl h.ld).2.1
theorem Ol.s0 (h:Ol o w a fs d):d.1.1≠0:=(XK h.pl h.ld).2.2.1
theorem QV {x:Rat}(h:x≠0):x⁻¹≠0:=fun k=>h (by rw[<-Rat.inv_inv x,k];exact Rat.inv_zero)
theorem pP (h:Ol o w a fs d)(k:Ol o w a fs e):L8 (Pn d e):=aB h.s8 k.s8
theorem nN (b:P'->Rat)(h:Ol o w a fs d)(k:Ol o w a fs e):X2 (kx d e) b=d.1.1⁻¹*(X2 d.2.1 fun n=>b (Xg (XQ (Pn d e) d.1.2) n))-e.1.1⁻¹*X2 e.2.1 fun n=>b (Xg (XQ (Pn d e) e.1.2) n):=by
 have c:=Vy (pP h k) h.s8;have m2:=Vy (pP h k) k.s8;have f:=V9 (z:=d.1.1⁻¹) c h.pl.q8;have g:=VH (VJ (QV k.s0) m2 k.pl);show X2 (Wh (XG d.1.1⁻¹ (XQ (Pn d e) d.1.2) d.2.1) (Wu (XG e.1.1⁻¹ (XQ (Pn d e) e.1.2) e.2.1))) b=_;rw[VC b _ _ _ (Ze _) f g.q8,RR];rw[Tr,Tr];grind
theorem gL (h:Ol o w a fs d)(k:Ol o w a fs e):Pl (kx d e):=
 (VJ (QV h.s0) (Vy (pP h k) h.s8) h.pl).add (VH (VJ (QV k.s0) (Vy (pP h k) k.s8) k.pl))
theorem fY (h:Ol o w a fs d)(k:Ol o w a fs e):Xg (XQ (Pn d e) d.1.2) d.1.2=Pn d e:=by
 rw[XW];exact W6 (h.s8.trans (pP h k).symm) (Tu _ _ (h.s8.trans k.s8.symm))
theorem fX (h:Ol o w a fs d)(k:Ol o w a fs e):Xg (XQ (Pn d e) e.1.2) e.1.2=Pn d e:=by
 rw[XW];exact W6 (k.s8.trans (pP h k).symm) (Tt _ _ (h.s8.trans k.s8.symm))
theorem fQ (h:Ol o w a fs d){m L:P'}(c:L8 m)(f:Xg m d.1.2=L):∀u∈d.2.1,ez w (WB w L) (Xg m u.2)/\ya o (Xg m u.2) L:=fun u e=>by
 have b:=h.pl.q8 u e;refine⟨⟨Vr c b,?_⟩,?_⟩
 ·rw[W1 w (c.trans b.symm),<-f,W1 w (c.trans h.s8.symm)];have:=h.wl u e;omega
 ·rw[<-f];exact(je h.pl h.ld u e).add c b h.s8
theorem q9 (h:Ol o w a fs d){m L:P'}(f:L8 m)(b:Xg m d.1.2=L):(X2 d.2.1 fun n=>WW L (Xg m n))=d.1.1:=by
 obtain⟨g,i,k,j⟩:=XK h.pl h.ld;rw[iF h.pl g (φ:=fun n=>WW L (Xg m n)) fun u c=> ?_]
 ·show WW L (Xg m d.1.2)*d.1.1=_;unfold WW;rw[if_pos b];grind
 ·rcases j u c with e|e
  ·exact .inl e
  ·right;have:=e.add f (h.pl.q8 u c) i;rw[b]at this;show WW L (Xg m u.2)=0;unfold WW;rw[if_neg this.ne]
theorem wi (h:Ol o w a fs d)(k:Ol o w a fs e):∀x∈kx d e,ez w (WB w (Pn d e)) x.2/\WO o x.2 (Pn d e):=by
 intro x i;have j:=Vy (pP h k) h.s8;have m2:=Vy (pP h k) k.s8;have m:=gL h k;have b:ez w (WB w (Pn d e)) x.2/\ya o x.2 (Pn d e):=by
  rcases Vj _ (Ze _) (V9 j h.pl.q8) (VH (VJ (QV k.s0) m2 k.pl)).q8 i with⟨y,c,e⟩|⟨y,c,e⟩
  ·unfold XG at c;obtain⟨u,g,rfl⟩:=ZM.1 c;rw[<-e];exact fQ h j (fY h k) u g
  ·unfold Wu X1 at c;obtain⟨n,f,rfl⟩:=ZM.1 c;unfold XG at f;obtain⟨u,g,rfl⟩:=ZM.1 f;rw[<-e];exact fQ k m2 (fX h k) u g
 refine⟨b.1,b.2.resolve_left fun e=> ?_⟩;have l:=m.SQ.Tj x i;rw[Wo,e,nN _ h k,q9 h j (fY h k),q9 k m2 (fX h k),Rat.inv_mul_cancel _ h.s0,Rat.inv_mul_cancel _ k.s0]at l;exact m.dc.nz x i (by rw[<-l];grind)
theorem dC (h:Ol o w a fs d):∃E:Nat,0<E/\E<=a/\∀u∈d.2.1,∃z:Int,d.1.1⁻¹*u.1*(E:Rat)=(z:Rat)/\z.natAbs<=a:=by
 obtain⟨r,A,m,B⟩:=XK h.pl h.ld;obtain⟨q,v,x,l⟩:=h.cd;obtain⟨j,b,k⟩:=l d.1 r;have i:(q:Rat)≠0:=by
  intro h;have :q=0:=by exact_mod_cast h
  omega
 have c:j≠0:=by
  intro h;rw[h]at b;have :d.1.1*(q:Rat)=0:=b;exact(Rat.mul_eq_zero.1 this).elim m i
 obtain⟨e,f,g⟩:=gV j c;refine⟨j.natAbs,Int.natAbs_pos.2 c,k,fun u p=> ?_⟩;obtain⟨y,s,t⟩:=l u p;refine⟨e*y,?_,by rw[Yq,g,Z4];exact t⟩;rw[f,YM,YM,<-b,<-s];have n:d.1.1⁻¹*d.1.1=1:=Rat.inv_mul_cancel _ m;have :d.1.1⁻¹*u.1*((e:Rat)*(d.1.1*(q:Rat)))=(d.1.1⁻¹*d.1.1)*((e:Rat)*(u.1*(q:Rat))):=by grind
 rw[this,n,Rat.one_mul]
theorem re {q:Z'}(b:Nz q){m n:P'}(a:L8 m):X2 q (fun k=>WW n (Xg m k))=0\/∃u∈q,X2 q (fun k=>WW n (Xg m k))=u.1:=by
 have e:X2 q (fun k=>WW n (Xg m k))=X2 q (fun k=>WW n (Xg k m)):=Ua fun u _=>by rw[XW]
 rw[e];rcases od b (m:=m) (n:=n) a with h|⟨u,hu,-,h⟩
 ·exact .inl h
 ·exact .inr ⟨u,hu,h⟩
theorem ud (h:Ol o w a fs d)(k:Ol o w a fs e):Cf (2*a*a) (kx d e):=by
 have r:=Vy (pP h k) h.s8;have m2:=Vy (pP h k) k.s8;obtain⟨E,e1,e2,i⟩:=dC h;obtain⟨F,j,f,l⟩:=dC k;have p:E*F<=a*a:=ZT e2 f;refine⟨E*F,Yi e1 j,by rw[Z3];omega,fun x q=> ?_⟩;have g:=(gL h k).SQ.Tj x q;rw[Wo,nN _ h k]at g;have s:∃z:Int,d.1.1⁻¹*(X2 d.2.1 fun n=>WW x.2 (Xg (XQ (Pn d e) d.1.2) n))*((E*F:Nat):Rat)=(z:Rat)/\z.natAbs<=a*a:=by
  rcases re h.pl.SQ (m:=XQ (Pn d e) d.1.2) (n:=x.2) r with e|⟨u,hu,e⟩
  ·exact⟨0,by rw[e,Rat.mul_zero,Rat.zero_mul];rfl,Zw _⟩
  ·obtain⟨z,b,c⟩:=i u hu;refine⟨z*F,by rw[e,Rat.natCast_mul,<-Rat.mul_assoc,b,YM,YV],?_⟩;rw[Yq,Z9];exact ZT c f
 have t:∃z:Int,e.1.1⁻¹*(X2 e.2.1 fun n=>WW x.2 (Xg (XQ (Pn d e) e.1.2) n))*((E*F:Nat):Rat)=(z:Rat)/\z.natAbs<=a*a:=by
  rcases re k.pl.SQ (m:=XQ (Pn d e) e.1.2) (n:=x.2) m2 with e|⟨u,hu,e⟩
  ·exact⟨0,by rw[e,Rat.mul_zero,Rat.zero_mul];rfl,Zw _⟩
  ·obtain⟨z,b,c⟩:=l u hu;refine⟨z*E,by rw[e,ZR,Rat.natCast_mul,<-Rat.mul_assoc,b,YM,YV],?_⟩;rw[Yq,Z9];exact ZT c e2
 obtain⟨z,b,c⟩:=s;obtain⟨y,v,A⟩:=t;refine⟨z-y,?_,?_⟩
 ·rw[<-g,Rat.intCast_sub,<-b,<-v];grind
 ·rw[Z3];omega
theorem GV {k:Nat}(l:k<200000000000)(n:a<4294967296^k)(i:w.length=8)(r:∀x∈w,0<x)(j:WB w (Pn d e)<=65535)(h:Ol o w a fs d)(g:Ol o w a fs e):DA d e:=by
 have v:=Vy (pP h g) h.s8;have m2:=Vy (pP h g) g.s8;have b:∀{d:Dv},Ol o w a fs d->∀u∈d.2.1,Sq u.1:=fun{d} h u c=>by
  obtain⟨q,A,B,C⟩:=h.cd;obtain⟨y,G,H⟩:=C u c;exact Sq.le l A G B H n
 have f:∀{d:Dv} (m:P'),Ol o w a fs d->Sz (XG d.1.1⁻¹ m d.2.1):=fun{d} m h t p=>by
  unfold XG at p;obtain⟨u,c,rfl⟩:=ZM.1 p;obtain⟨E,e1,e2,s⟩:=dC h;obtain⟨z,I,J⟩:=s u c;exact Sq.le l e1 I e2 J n
 have D:=(XK h.pl h.ld).1;have F:=(XK g.pl g.ld).1;exact⟨b h _ D,h.s0,b g _ F,g.s0,b h,b g,fun u c=>(fQ h v (fY h g) u c).1.ok i r j,fun u c=>(fQ g m2 (fX h g) u c).1.ok i r j,f _ h,f _ g,by have:=h.len;omega,by have:=g.len;omega⟩
def uZ (o:M')(w:P')(d e:Dv):J':=(SO o (allM w (WB w (Pn d e)))).filter fun n=>decide (WO o n (Pn d e))
theorem Gk (k:w.length=8)(l:∀x∈w,0<x)(h:Ol o w a fs d)(g:Ol o w a fs e):F4 o w (WB w (Pn d e)) (uZ o w d e):=by
 have f:∀n∈allM w (WB w (Pn d e)),ez w (WB w (Pn d e)) n:=fun n c=>by
  obtain⟨a,b⟩:=Nf c l;exact⟨a.trans k,b⟩
 refine⟨(aY fun n c=>(f n c).1).sublist List.filter_sublist,fun n c=>f n (WS.1 (Yo.1 c).1),fun p j n c i=> ?_⟩;obtain⟨m,x2⟩:=Yo.1 j;refine Yo.2 ⟨WS.2 (TF (k.trans c.1.symm) l c.2),?_⟩;exact decide_eq_true (i.trans c.1 (f p (WS.1 m)).1 (pP h g) (of_decide_eq_true x2))
theorem wV (c:w.length=8)(f:∀x∈w,0<x){n:P'}(b:ez w (WB w (Pn d e)) n)(a:WO o n (Pn d e)):n∈uZ o w d e:=
 Yo.2 ⟨WS.2 (TF (c.trans b.1.symm) f b.2),decide_eq_true a⟩
theorem fV {n:P'}(c:w.length=8)(f:∀x∈w,0<x)(h:n∈uZ o w d e):ez w (WB w (Pn d e)) n/\WO o n (Pn d e):=by
 obtain⟨g,x2⟩:=Yo.1 h;obtain⟨a,b⟩:=Nf (WS.1 g) f;exact⟨⟨a.trans c,b⟩,of_decide_eq_true x2⟩
theorem wh (h:Ol o w a fs d)(g:Ol o w a fs e){P:P'->Prop}(f:P (Pn d e)):UF o fs P fun b=>X2 (kx d e) b:=by
 have i:=Vy (pP h g) h.s8;have m2:=Vy (pP h g) g.s8;have j:UF o fs P _:=UF.add (c:=d.1.1⁻¹) (P:=P) (v:=fun b=>d.1.1⁻¹*X2 d.2.1 fun n=>b (Xg (XQ (Pn d e) d.1.2) n)) (w:=fun _=>0) h.mem h.ld i (by rw[fY h g];exact f) (.zero fun _=>rfl) fun b=>by grind
 refine UF.add (c:= -e.1.1⁻¹) g.mem g.ld m2 (by rw[fX h g];exact f) j fun b=> ?_
 rw[nN _ h g];grind
end Go.Proofs.YtidginchkjhobaaGreat
namespace Go.Proofs.YtidginchkjhobaaGreat
open Go.Ev Go.Num
variable {o:M'}{w:P'}
theorem vV:∀(w s t:P'),WB w (XJ s t)<=WB w s+WB w t
 |[],_,_=>by simp[WB]
 |_::_,[],_=>by simp[WB,XJ]
 |_::_,_::_,[]=>by simp[WB,XJ]
 |a::w,x::s,y::t=>by
  have b:=vV w s t;unfold XJ at b⊢;simp only[ZC,WB];have c:a*max x y<=a*x+a*y:=by
   rw[<-Nat.mul_add];exact Yb _ (by omega)
  omega
theorem Pt {f:Z'}(h:Pl f):SI f:=h.SQ.nd
end Go.Proofs.YtidginchkjhobaaGreat
namespace Go.Proofs.YtidginchkjhobaaGreat
open Go.Ev Go.Num
variable {o:M'}{w:P'}
def DK (o:M')(w:P')(fs:S'):Prop:=∀V,GB o w V fs
theorem gk:∀(l:S') (i:Nat),(∀f∈l,Pl f)->∀f∈l,∀s,XR o f=some s->∃d∈Vb o l i,d.1=s/\d.2.1=f
 |[],_,_,f,a,_,_=>by cases a
 |g::l,i,hp,f,a,s,hs=>by
  have b:=gk l (i+1) fun f a=>hp f (Zb _ a)
  unfold Vb;split
  ·rename_i e;rcases Zj.1 a with rfl|a
   ·have :f=[]:=by
     have h:=T7 o f;rw[e]at h;exact Ye h.symm
    subst this;cases hs
   ·exact b f a s hs
  ·rename_i t k e;rcases Zj.1 a with rfl|a
   ·have:=Pk (hp f (Zc ..)) e;rw[hs]at this;cases this;exact⟨_,Zc ..,rfl,rfl⟩
   ·obtain⟨d,c,j⟩:=b f a s hs;exact⟨d,Zb _ c,j⟩
theorem BT {n i p q:Nat}(d:i<=n):(p,q)∈RE n i↔p<i/\p<q/\q<n:=by
 unfold RE n9;simp only[Ys,List.mem_range,ZM];constructor
 ·rintro ⟨x,e,y,f,h⟩;simp only[Zp]at h;omega
 ·rintro ⟨a,b,c⟩;exact⟨p,a,q-(p+1),by omega,by rw[show p+1+(q-(p+1))=q by omega]⟩
def Iw (o:M')(fs gs:S'):Prop:=∀g∈gs,∀s,XR o g=some s->∃f∈fs,∃s',XR o f=some s'/\s'.2=s.2/\∃q:Rat,∀φ,X2 g φ=q*X2 f φ
theorem BC {fs a:S'}(h:Iw o fs a){P:P'->Prop}{v:Num.Fn}(r:UF o a P v):UF o fs P v:=by
 induction r with
 |zero h=>exact .zero h
 |@add v w g s c m k n l i u p t=>
  obtain⟨f,j,x,b,d,q,e⟩:=h g k s n;exact .add (c:=c*q) j b l (by rw[d];exact i) t fun y=>by rw[p,e];grind
theorem DK.KP {fs a:S'}(h:Iw o fs a)(k:Iw o a fs)(d:DK o w fs):DK o w a:=by
 intro V v i;rcases d V v (BC h i)with h1|⟨δ,f,s,h1,h2,h3,h4,h5,h6⟩
 ·exact .inl h1
 ·obtain⟨g,e,j,b,c,-⟩:=k f h4 s h5;exact .inr ⟨δ,g,j,h1,h2,h3,e,b,by rw[c];exact h6⟩
end Go.Proofs.YtidginchkjhobaaGreat
namespace Go.Num
open Go.Ev
theorem NA {c d:Z'}(h:Nz c)(k:Nz d)(e:∀g,X2 c g=X2 d g):c.Perm d:=by
 have f:∀{l:Z'},(l.map (·.2)).Nodup->l.Nodup:=fun{l} h=>by
  rw[List.nodup_iff_pairwise_ne,List.pairwise_map]at h;exact h.imp fun a e=>a (congrArg Prod.snd e)
 rw[List.perm_ext_iff_of_nodup (f h.nd) (f k.nd)];exact fun x=>⟨fun b=>h.same k (fun m _=>by rw[Wo,Wo,e]) b,fun b=>k.same h (fun m _=>by rw[Wo,Wo,e]) b⟩
theorem AH {f:Z'}(h:Pl f)(e:∀a,X2 f a=0):f=[]:=Om.ext h.dc .nil fun m=>by rw[Wo,e,jS]
theorem dz {t:Qm}(h0:t.1≠0)(b:L8 t.2):Pl [t]:=⟨⟨fun x a=>by grind,List.pairwise_singleton ..⟩,fun x a=>by grind⟩
theorem Fa {o:M'}{left p:Z'}{t:Qm}(c:Pl left)(b:PO o (t::p))(a:left.Perm (t::p)):XR o left=some t:=by
 cases h:XR o left with
 |none=>
  have:=Td h
  simp_all
 |some s=>
  obtain⟨f,g,j,i⟩:=XK c h;have d:t∈left:=a.mem_iff.2 (Zc ..);rcases i t d with e|e
  ·rw[e]
  ·rcases Zj.1 (a.mem_iff.1 f)with e2|e2
   ·rw[e2]
   ·have:=(Zu.1 b.pw).1 s e2;exact absurd e (this.asymm g (b.q8 t (Zc ..)))
end Go.Num
namespace Go.Proofs.YtidginchkjhobaaGreat
open Go.Ev Go.Num
theorem QO.perm {a us:Z'}(h:QO us)(p:a.Perm us):QO a:=⟨fun x b=>h.1 x (p.mem_iff.1 b),by rw[p.length_eq];exact h.2⟩
structure Lf (o:M')(fs:S')(ds:List Dv):Prop where
 at_:∀(j:Nat) (d:Dv),ds[j]? =some d->fs[d.2.2.2]? =some d.2.1
 inj:∀(i j:Nat) (d e:Dv),ds[i]? =some d->ds[j]? =some e->d.2.2.2=e.2.2.2->i=j
 none_:∀m,TY m ds 0=none->WE o m fs 0=none
 some_ :∀m (j:Nat) (d:Dv),TY m ds 0=some j->ds[j]? =some d->WE o m fs 0=some d.2.2.2
structure DF (k:Nat)(l0:J')(fs:S')(ds:List Dv)(p:Z')(tq:S')(tr:Z')(left:Z')(Qs:S')(R:Z'):Prop where
 pl:Pl left
 le:∀φ,X2 left φ=X2 p φ
 IH:Pl R
 rR:∀φ,X2 R φ=X2 tr φ
 len:Qs.length=fs.length
 at_:∀(j:Nat) (d:Dv) (q:Z'),ds[j]? =some d->tq[j]? =some q->∃Q,Qs[d.2.2.2]? =some Q/\Pl Q/\∀φ,X2 Q φ=X2 q φ
 up:∀(j:Nat) (d:Dv) (q:Z'),ds[j]? =some d->tq[j]? =some q->∀u∈q,Xg u.2 d.1.2∈l0/\Bq k u.1
 Jy:∀i,(∀(j:Nat) (d:Dv),ds[j]? =some d->d.2.2.2≠i)->i<fs.length->Qs[i]? =some []
theorem bh {o:M'}{w:P'}{W a k:Nat}{fs:S'}{z:List Dv}(E:Cx o w W a k fs z)(fi:Lf o fs z){l0:J'}:∀(l:J'),F4 o w W l->(∀x∈l,x∈l0)->l.length<49000->∀{p:Z'} {H:S'} {I:Z'} {C:Nat},PO o p->(∀u∈p,u.2∈l)->Cf C p->1<=C->C*(2*a)^l.length*a<4294967296^k->QI o z l H->RI o z l I->
  ∀{left R:Z'} {V:S'},DF k l0 fs z p H I left V R->
  ∃n r f v X,cG o Sq QO XD z false n p H I r f/\QI o z [] r/\RI o z [] f/\eA o QO XD fs left V R v X/\DF k l0 fs z [] r f [] v X/\UF o fs (fun n=>n∈l) fun B=>X2 p B-(X2 f B-X2 I B)
 |l,_,_,_,[],H,I,_,_,_,_,_,_,Z,G,left,R,V,rel=>by
  have O:left=[]:=AH rel.pl fun B=>by rw[rel.le];rfl
  subst O;exact⟨0,H,I,V,R,.done,Z.sub (fun _ h=>by cases h) (Zw _),G.sub (fun _ h=>by cases h) (Zw _),.done,rel,.zero fun B=>by simp only[X2];grind⟩
 |[],_,_,_,t::p,_,_,_,_,hm,_,_,_,_,_,_,_,_,_=>by grind
 |δ::l,O,h00,hln,t::p,H,I,C,hp,hm,hC,hC1,T,Z,G,left,R,V,rel=>by
  obtain⟨b1,b2⟩:=ri O hp hm;have a2:∀x∈l,x∈l0:=fun x s=>h00 x (Zb _ s)
  have K:=O.tail;have b5:=O.xh δ (Zc ..);have p1:=(Zu.1 O.dc).1;have a1:=E.a1;simp only[Zi]at hln T;have a4:QI o z l H:=Z.sub (fun x s=>Zb _ s) (by simp);have a5:RI o z l I:=G.sub (fun x s=>Zb _ s) (by simp);have a0:=Z7 (wD (C:=C) a1 l.length) T;have b0:=Z7 (wE (C:=C) a1 (l.length+1)) T;by_cases ht:t.2=δ
  ·have b4:=hp.q8 t (Zc ..);have b3:=hp.nz t (Zc ..);have a9:left.Perm (t::p):=NA rel.pl.SQ hp.SQ rel.le;have J:=Fa rel.pl hp a9;have e4:C<=C*a:=YU _ a1;have c0:Sz (t::p):=Gv E.k7 hC (by omega);have e3:(t::p).length<=l.length+1:=PO.dH (l:=δ::l) O.dc (fun n L=>(O.xh n L).1) hp hm;have b9:QO left:=QO.perm ⟨c0,by omega⟩ a9;have d2:R.Perm I:=NA rel.IH.SQ G.SQ rel.rR;have e1:QO R:=QO.perm ⟨G.sz,by have:=G.len;omega⟩ d2;have st:Sq t.1:=c0 t (Zc ..);have U:∀{x:Qm},Sq x.1->QO [x]:=fun{x} h=>⟨fun y hy=>by grind,by simp⟩
   have a6:=dz b3 b4;cases hf:TY t.2 z 0 with
   |none=>
    have d5:RI o z l (I++[t]):=by
     have e5:=G.len;refine⟨wQ G.SQ b3 b4 fun u b e=> ?_,G.sz.snoc st,fun u b x s=> ?_,?_,fun u b d hd=> ?_⟩
     ·have:=G.lt u b δ (Zc ..)
      grind [WO.zD]
     ·rcases ZW.1 b with b|b
      ·exact a5.lt u b x s
      grind
     ·grind
     ·rcases ZW.1 b with b|b
      ·exact G.nd u b d hd
      grind [Sc]
    have N:DF k l0 fs z p H (I++[t]) (Wh left (Wu [t])) V (Wh R [t]):=by
     have pn:=VH a6;refine⟨rel.pl.add pn,fun B=> ?_,rel.IH.add a6,fun B=> ?_,rel.len,rel.at_,rel.up,rel.Jy⟩
     ·rw[VC B _ _ _ (Ze _) rel.pl.q8 pn.q8,RR,rel.le];simp only[X2];grind
     ·rw[VC B _ _ _ (Ze _) rel.IH.q8 a6.q8,rel.rR,RT]
    obtain⟨n,r,f,v,X,k1,k2,k3,k4,k5,k6⟩:=bh E fi l K a2 (by omega) hp.tail b1 (hC.sub fun x s=>Zb _ s) hC1 a0 a4 d5 N;exact⟨n+1,r,f,v,X,.BF rfl ⟨G.sz,by have:=G.len;omega⟩ hf k1,k2,k3,.rem b9 e1 (U st) J (fi.none_ _ hf) k4,k5,(k6.mono fun n L=>Zb _ L).congr fun B=>by grind [RT,X2]⟩
   |some j=>
    obtain⟨d,f1,F,f3,f4⟩:=Ru hf;rw[YW]at F;have c2:=f3;rw[ht]at f3;have a8:=Zk F;have D:=E.dv d a8;have S:=step E b5 (fun n L=>(K.xh n L).1) p1 (fun n L Y=>(Zj.1 (O.cl δ (Zc ..) n L Y)).resolve_left Y.ne) K.dc (by omega) hp ht b1 hC b0 hC1 a8 f3;obtain⟨q,P⟩:∃q,H[j]? =some q:=⟨_,Zg (by rw[Z.len];grind)⟩;obtain⟨n1,n2,n3,n4⟩:=Z.at_ j q d P F;have M:iV false H j (XZ t d.1)=H.set j (q++[XZ t d.1]):=by simp only[iV,P]
    have d4:QI o z l (iV false H j (XZ t d.1)):=by
     rw[M];refine⟨by rw[ZL];exact Z.len,fun i q' d' A g=> ?_⟩;rw[YK]at A;by_cases m:j=i
     ·subst m;rw[if_pos rfl]at A;split at A
      ·cases A;rw[F]at g;cases g;refine⟨wQ n1 S.c9 S.m8 fun u b e=> ?_,n2.snoc (S.c5.sq E.k7),fun u b x s=> ?_,?_⟩
       ·have:=n3 u b δ (Zc ..);rw[e,S.ms]at this;exact WO.zD this
       ·rcases ZW.1 b with b|b
        ·grind
        ·simp only[Zj,ZV,or_false]at b;subst b;rw[S.ms];exact p1 x s
       grind
      ·cases A
     ·rw[if_neg m]at A;exact a4.at_ i q' d' A g
    obtain⟨Q,q1,q2,q3⟩:=rel.at_ j d q F P;have d1:Q.Perm q:=NA q2.SQ n1 q3;have d9:QO Q:=QO.perm ⟨n2,by omega⟩ d1;have b8:Pl [XZ t d.1]:=dz S.c9 S.m8;have d3:=fi.at_ j d F;have e0:QO d.2.1:=QO.perm (us:=d.1::d.2.2.1) ⟨fun x s=>by
     rcases Zj.1 s with rfl|s
     ·exact S.c4
     ·exact S.c6.1 x s,by rw[D.perm.length_eq];exact D.len⟩ D.perm.symm
    have e7:(XZ t d.1).1*d.1.1=t.1:=by
     show t.1 / d.1.1*d.1.1=t.1;have:=S.c8
     grind
    have b6:∀u∈d.2.1,u=d.1\/u∈d.2.2.1:=fun u b=>Zj.1 (D.perm.mem_iff.2 b)
    have e2:QO (XG (XZ t d.1).1 (XZ t d.1).2 d.2.1):=⟨fun x s=>by
     unfold XG at s;obtain⟨u,b,rfl⟩:=ZM.1 s;rcases b6 u b with rfl|b
     ·grind
     ·have:=(S.c7 u b).2.2.neg
      grind,by unfold XG;rw[ZP];exact D.len⟩
    have d7:∀u∈d.2.1,XD (Xg (XZ t d.1).2 u.2):=fun u b=>by
     rcases b6 u b with rfl|b
     ·rw[S.ms];exact b5.ok E.w8 E.wp E.Le
     ·rw[XW];exact(S.c7 u b).1
    have d8:=VJ S.c9 S.m8 D.pl;have b7:=VH d8;have a7:d.2.2.2<V.length:=(Zf.1 q1).1;have N:DF k l0 fs z (TS o (-(XZ t d.1).1) (XZ t d.1).2 p d.2.2.1) (iV false H j (XZ t d.1)) I (Wh left (Wu (XG (XZ t d.1).1 (XZ t d.1).2 d.2.1))) (V.set d.2.2.2 (Wh Q [XZ t d.1])) R:=by
     rw[M];refine⟨rel.pl.add b7,fun B=> ?_,rel.IH,rel.rR,by rw[ZL];exact rel.len,fun i e q' A g=> ?_,fun i e q' A g=> ?_,fun i hi a3=> ?_⟩
     ·rw[VC B _ _ _ (Ze _) rel.pl.q8 b7.q8,RR,Tr,rel.le,S.eq]
      grind
     ·rw[YK]at g;by_cases m:j=i
      ·subst m;rw[F]at A;cases A;rw[if_pos rfl]at g;split at g
       ·cases g;refine⟨Wh Q [XZ t d.1],Yv a7,q2.add b8,fun B=> ?_⟩;rw[VC B _ _ _ (Ze _) q2.q8 b8.q8,q3,RT]
       ·cases g
      ·rw[if_neg m]at g;obtain⟨Q',y1,y2,y3⟩:=rel.at_ i e q' A g;have e6:d.2.2.2≠e.2.2.2:=fun h=>m (fi.inj j i d e F A h)
       grind
     ·rw[YK]at g;by_cases m:j=i
      ·subst m;rw[F]at A;cases A;rw[if_pos rfl]at g;split at g
       ·cases g;intro u b;rcases ZW.1 b with b|b
        ·exact rel.up j d q F P u b
        ·obtain rfl:=ZS.1 b;exact⟨by rw[S.ms];grind,S.c5⟩
       ·cases g
      ·rw[if_neg m]at g;exact rel.up i e q' A g
     ·rw[ZK (hi j d F)];exact rel.Jy i hi a3
    have d0:1<=2*a*C:=Yi (by omega) hC1;obtain⟨n,r,f,v,X,k1,k2,k3,k4,k5,k6⟩:=bh E fi l K a2 (by omega) S.po S.mem S.cf d0 (by rw[rh];exact T) d4 a5 N;refine⟨n+1,r,f,v,X,.div S.c1 S.c3 S.c4 (S.c5.sq E.k7) S.c6 S.c7 S.c8 S.c9 (fun q d6=> ?_) hf F k1,k2,k3,.div b9 e0 (U st) (U S.c4) (U (S.c5.sq E.k7)) d9 e2 S.c8 S.c9 d7 J (fi.some_ _ j d hf F) d3 D.ld c2 q1 k4,k5,UF.add (c:=(XZ t d.1).1) D.mem D.ld S.m8 (by rw[S.ms];grind) (k6.mono fun n L=>Zb _ L) fun B=>by rw[S.eq];grind⟩;obtain⟨i,hi⟩:=ZB.1 d6;have a3:i<z.length:=by rw[<-Z.len];grind
    obtain⟨-,m2,-,m4⟩:=Z.at_ i q _ hi (Zg a3);exact⟨m2,by omega⟩
  ·obtain⟨n,r,f,v,X,k1,k2,k3,k4,k5,k6⟩:=bh E fi l K a2 (by omega) hp (b2 ht) hC hC1 a0 a4 a5 rel;exact⟨n,r,f,v,X,k1,k2,k3,k4,k5,k6.mono fun n L=>Zb _ L⟩
theorem vD (o:M'):∀(fs:S') (i j:Nat) (d:Dv),(Vb o fs i)[j]? =some d->i<=d.2.2.2/\fs[d.2.2.2-i]? =some d.2.1
 |[],i,j,d,h=>by simp[Vb]at h
 |f::fs,i,j,d,h=>by
  have c:=fun j h=>vD o fs (i+1) j d h
  unfold Vb at h;split at h
  ·obtain⟨a,b⟩:=c j h;refine⟨by omega,?_⟩;rw[show d.2.2.2-i=(d.2.2.2-(i+1))+1 by omega];exact b
  ·cases j with
   |zero=>
    simp only[Ym,Za]at h;subst h;refine⟨Ze _,?_⟩;show(f::fs)[i-i]? =some f;rw[YH];rfl
   |succ j=>
    rw[Z2]at h;obtain⟨a,b⟩:=c j h;refine⟨by omega,?_⟩;rw[show d.2.2.2-i=(d.2.2.2-(i+1))+1 by omega];exact b
theorem oQ (o:M'):∀(fs:S') (i:Nat),(Vb o fs i).Pairwise fun d e=>d.2.2.2<e.2.2.2
 |[],i=>by simp[Vb]
 |f::fs,i=>by
  have a:=oQ o fs (i+1);unfold Vb;split
  ·exact a
  ·refine Zu.2 ⟨fun e b=> ?_,a⟩;obtain⟨j,c⟩:=ZB.1 b;have:=(vD o fs (i+1) j e c).1;show i<e.2.2.2;omega
theorem sJ (o:M')(m:P'):∀(fs:S') (i k j:Nat) (d:Dv),(∀f∈fs,Pl f)->TY m (Vb o fs i) k=some j->(Vb o fs i)[j-k]? =some d->WE o m fs i=some d.2.2.2
 |[],i,k,j,d,_,h,_=>by simp[Vb,TY]at h
 |f::fs,i,k,j,d,hp,h,hd=>by
  have b:=fun k=>sJ o m fs (i+1) k j d (fun g n=>hp g (Zb _ n))
  unfold Vb at h hd;unfold WE;cases e:Vz o f with
  |nil=>
   rw[e]at h hd;have l:f=[]:=by
    have:=T7 o f;rw[e]at this;exact Ye this.symm
   subst l;exact b k h hd
  |cons t r=>
   rw[e]at h hd;have q:=Pk (hp f (Zc ..)) e;simp only[q];simp only at h hd;unfold TY at h;by_cases a:Wn t.2 m=true
   ·rw[if_pos a]at h⊢;cases h;rw[YH]at hd;simp only[Ym,Za]at hd;subst hd;rfl
   ·rw[if_neg a]at h⊢;have p:k+1<=j:=by
     obtain⟨_,c,-⟩:=Ru h;exact c
    rw[show j-k=(j-(k+1))+1 by omega,Z2]at hd;exact b (k+1) h hd
theorem CO (o:M'){fs:S'}(r:∀f∈fs,Pl f):Lf o fs (Vb o fs 0):=by
 refine⟨fun j d h=> ?_,fun i j d e b c A=> ?_,fun m h=> ?_,fun m j d b c=>sJ o m fs 0 0 j d r b (by rw[YW];exact c)⟩
 ·have:=(vD o fs 0 j d h).2
  rwa[YW]at this
 ·have p:=oQ o fs 0;rw[List.pairwise_iff_getElem]at p;obtain⟨t,u⟩:=Zf.1 b;obtain⟨v,w⟩:=Zf.1 c;rcases Nat.lt_trichotomy i j with h|h|h
  ·have:=p i j t v h;rw[u,w]at this;omega
  ·exact h
  ·have:=p j i v t h;rw[u,w]at this;omega
 ·have y:=Sc h;have key:∀(a:S') (i:Nat),(∀g∈a,∀s,XR o g=some s->Wn s.2 m=false)->WE o m a i=none:=by
   intro a;induction a with
   |nil=>intro i _;rfl
   |cons g a z=>
    intro i l;have k:=z (i+1) fun x n=>l x (Zb _ n)
    unfold WE;split
    ·rename_i s q;rw[if_neg (by rw[l g (Zc ..) s q];decide)];exact k
    ·exact k
  refine key fs 0 fun g l s q=> ?_
  obtain⟨d,b,c,-⟩:=gk fs 0 r g l s q;rw[<-c];exact y d b
theorem wj {Q q:Z'}(b:Pl Q)(c:Nz q)(e:∀a,X2 Q a=X2 q a):Vz [] q=Q:=
 Om.ext (U5 c).dc.dc b.dc fun m=>by rw[Wo,Wo,bA,e]
theorem dw:∀(b:List Dv) (c a:S') (i:Nat),(∀d∈b,d.2.2.2≠i)->(OE b c a)[i]? =a[i]?
 |[],_,_,_,_=>rfl
 |_::_,[],_,_,_=>rfl
 |d::b,q::c,a,i,h=>by
  rw[OE,dw b c _ i fun e f=>h e (Zb _ f),ZK (h d (Zc ..))]
theorem lU:∀(b:List Dv) (c a:S') (j:Nat) (d:Dv) (q:Z'),b.Pairwise (fun d e=>d.2.2.2<e.2.2.2)->b[j]? =some d->c[j]? =some q->d.2.2.2<a.length->(OE b c a)[d.2.2.2]? =some (Vz [] q)
 |[],_,_,j,d,q,_,h,_,_=>by simp at h
 |_::_,[],_,j,d,q,_,_,h,_=>by simp at h
 |e::b,r::c,a,j,d,q,hp,h1,h2,hl=>by
  obtain⟨g,i⟩:=Zu.1 hp;rw[OE];cases j with
  |zero=>
   simp only[Ym,Za]at h1 h2;subst h1 h2;rw[dw b c _ _ fun x f=>by have:=g x f;omega,Yv hl]
  |succ j=>
   rw[Z2]at h1 h2;exact lU b c _ j d q i h1 h2 (by rw[ZL];exact hl)
variable {o:M'}{w:P'}
theorem ow (e:w.length=8)(f:∀x∈w,0<x)(V:Nat):F4 o w V (SO o (allM w V)):=by
 have d:∀n∈SO o (allM w V),ez w V n:=fun n c=>by
  obtain⟨a,b⟩:=Nf (WS.1 c) f;exact⟨a.trans e,b⟩
 exact⟨aY fun n c=>(d n (WS.2 c)).1,d,fun g _ n c _=>WS.2 (TF (e.trans c.1.symm) f c.2)⟩
structure J1 (k:Nat)(o:M')(l:J')(fs:S')(p:Z')(n:Nat)(tq:S')(tr:Z')(Qs:S')(R:Z'):Prop where
 prog:cG o Sq QO XD (Vb o fs 0) false n (Vz o p) (List.replicate (Vb o fs 0).length []) [] tq tr
 ref:eA o QO XD fs p (List.replicate fs.length []) [] Qs R
 Lm:∀q∈tq,SI q/\q.length<60000
 Ll:tq.length=(Vb o fs 0).length
 Lk:SI tr
 Lj:tr.length<60000
 same:OE (Vb o fs 0) tq (List.replicate fs.length [])=Qs
 rest:Vz [] tr=R
 Kd:∀q∈Qs,QO q
 Lz:QO R
 up:∀(i:Nat) (Q f:Z') (s:Qm),Qs[i]? =some Q->fs[i]? =some f->XR o f=some s->Pl Q/\∀u∈Q,Xg u.2 s.2∈l/\Bq k u.1
 iC:Qs.length=fs.length
 Lq:Nz tr
 nd:∀u∈tr,∀d∈Vb o fs 0,Wn d.1.2 u.2=false
 KI:UF o fs (fun n=>n∈l) fun φ=>X2 p φ-X2 tr φ
theorem sO {a k V C:Nat}{fs:S'}(P:Cx o w V a k fs (Vb o fs 0)){l:J'}(ls:F4 o w V l)(H:l.length<49000){p:Z'}(hp:Pl p)(W:∀u∈p,u.2∈l)(hC:Cf C p)(T:1<=C)(Z:C*(2*a)^l.length*a<4294967296^k):∃n F J L R,J1 k o l fs p n F J L R:=by
 have S:=CO o P.EU;have X:QI o (Vb o fs 0) l (List.replicate (Vb o fs 0).length []):=by
  refine⟨by simp,fun j q d' g c=> ?_⟩;have W:=Zk g;obtain rfl:=(YR.1 W).2;exact⟨Nz.nil,Sz.nil,(fun _ h=>by cases h),by simp;omega⟩
 have Y:RI o (Vb o fs 0) l []:=⟨Nz.nil,Sz.nil,(fun _ h=>by cases h),by simp;omega,(fun _ h=>by cases h)⟩;have O:∀(j:Nat) (d:Dv),(Vb o fs 0)[j]? =some d->d.2.2.2<fs.length:=fun j d h=>(Zf.1 (S.at_ j d h)).1
 have I:DF k l fs (Vb o fs 0) (Vz o p) (List.replicate (Vb o fs 0).length []) [] p (List.replicate fs.length []) []:=by
  refine⟨hp,fun φ=>(bA φ p).symm,Pl.nil,fun _=>rfl,by simp,fun j d q g c=> ?_,fun j d q g c=> ?_,fun i _ r=> ?_⟩
  ·obtain rfl:=(YR.1 (Zk c)).2;exact⟨[],by rw[Yf,if_pos (O j d g)],Pl.nil,fun _=>rfl⟩
  ·obtain rfl:=(YR.1 (Zk c)).2;exact fun _ h=>by cases h
  ·rw[Yf,if_pos r]
 obtain⟨n,F,J,L,R,k1,N,z,k4,m,k6⟩:=bh P S (l0:=l) l ls (fun _ h=>h) H (U5 hp.SQ) (fun u hu=>W u ((WL o p).mem_iff.1 hu)) (hC.sub fun t ht=>(WL o p).mem_iff.1 ht) T Z X Y I;have x:∀q∈F,Nz q/\QO q:=fun q B=>by
  obtain⟨j,y⟩:=ZB.1 B;have A:j<(Vb o fs 0).length:=by rw[<-N.len];exact(Zf.1 y).1
  obtain⟨m1,m2,m3,m4⟩:=N.at_ j q _ y (Zg A);exact⟨m1,m2,by simp at m4;omega⟩
 have hR:Vz [] J=R:=wj m.IH z.SQ m.rR;have a1:QO R:=QO.perm (us:=J) ⟨z.sz,by have:=z.len;simp at this;omega⟩ (NA m.IH.SQ z.SQ m.rR);have a0:=oQ o fs 0;have b:∀i,i<fs.length->(∃(j:Nat) (d:Dv) (q:Z'),(Vb o fs 0)[j]? =some d/\F[j]? =some q/\d.2.2.2=i)\/∀(j:Nat) (d:Dv),(Vb o fs 0)[j]? =some d->d.2.2.2≠i:=fun i r=>by
  by_cases h:∃d∈Vb o fs 0,d.2.2.2=i
  ·obtain⟨d,U,rfl⟩:=h;obtain⟨j,y⟩:=ZB.1 U;have A:=(Zf.1 y).1;exact .inl ⟨j,d,_,y,Zg (by rw[N.len];exact A),rfl⟩
  ·exact .inr fun j d y e=>h ⟨d,Zk y,e⟩
 have D:OE (Vb o fs 0) F (List.replicate fs.length [])=L:=by
  apply List.ext_getElem?;intro i;by_cases r:i<fs.length
  ·rcases b i r with⟨j,d,q,g,c,rfl⟩|h
   ·obtain⟨Q,E,G,K⟩:=m.at_ j d q g c;rw[lU _ _ _ j d q a0 g c (by simpa using r),E,wj G (x q (Zk c)).1 K]
   ·rw[dw _ _ _ i fun d U=>by
     obtain⟨j,y⟩:=ZB.1 U;exact h j d y,m.Jy i h r,Yf,if_pos r]
  ·rw[Yd (by rw[lT];simp;omega),Yd (by rw[m.len];omega)]
 refine⟨n,F,J,L,R,k1,k4,fun q B=>⟨(x q B).1.nd,by have:=(x q B).2.2;omega⟩,N.len,z.SQ.nd,by have:=z.len;simp at this;omega,D,hR,fun Q M=> ?_,a1,fun i Q f s M hf hs=> ?_,m.len,z.SQ,z.nd,k6.congr fun φ=>by rw[bA];simp only[X2];grind⟩
 ·obtain⟨i,r⟩:=ZB.1 M;have v:i<fs.length:=by rw[<-m.len];exact(Zf.1 r).1
  rcases b i v with⟨j,d,q,g,c,rfl⟩|h
  ·obtain⟨Q',E,G,K⟩:=m.at_ j d q g c;rw[r]at E;cases E;have B:=x q (Zk c);exact QO.perm B.2 (NA G.SQ B.1 K)
  ·have:=m.Jy i h v;rw[r]at this;cases this;exact⟨Sz.nil,by simp⟩
 ·have v:i<fs.length:=(Zf.1 hf).1;rcases b i v with⟨j,d,q,g,c,rfl⟩|h
  ·obtain⟨Q',E,G,K⟩:=m.at_ j d q g c;rw[M]at E;cases E;have e:=S.at_ j d g;rw[hf]at e;cases e;have e2:=(P.dv d (Zk g)).ld;rw[hs]at e2;cases e2;have pm:=NA G.SQ (x q (Zk c)).1 K;exact⟨G,fun u hu=>m.up j d q g c u (pm.mem_iff.1 hu)⟩
  ·have:=m.Jy i h v;rw[M]at this;cases this;exact⟨Pl.nil,fun _ h=>by cases h⟩
end Go.Proofs.YtidginchkjhobaaGreat
namespace Go.Proofs.YtidginchkjhobaaGreat
open Go.Ev Go.Num
theorem wO (m:P')(s:Qm):XZ (1,m) s=(s.1⁻¹,XQ m s.2):=by unfold XZ;rw[Rat.div_def,Rat.one_mul]
theorem G7 (s:Qm)(a:Z')(t:Qm)(b:Z'):G8 s a t b=gM s a t b:=by unfold G8 gM TN;rw[wO,wO]
theorem uG {a:I'}(h:X5 a []):a=[]:=by cases h;rfl
theorem aX {o:M'}{f:Z'}(h:f≠[]):∃s a,Vz o f=s::a:=by
 cases b:Vz o f with
 |nil=>
  have:=T7 o f;rw[b]at this;exact absurd (Ye this.symm) h
 |cons s a=>exact⟨s,a,rfl⟩
variable {o:M'}{w:P'}
end Go.Proofs.YtidginchkjhobaaGreat
namespace Go.Proofs.YtidginchkjhobaaGreat
open Go.Ev Go.Num
theorem gJ {o:M'}{f:Z'}(c:Pl f){s:Qm}(g:XR o f=some s):∃b,(s::b).Perm f/\PO o (s::b):=by
 have d:=WL o f;have a:=U5 (o:=o) c.SQ;cases e:Vz o f with
 |nil=>
  have:=T7 o f;rw[e]at this;have:=Ye this.symm;subst this;cases g
 |cons t h=>
  have:=Pk c e;rw[g]at this;cases this;rw[e]at d a;exact⟨h,d,a⟩
theorem rV {o:M'}{f g:Z'}(n:Pl f)(l:Pl g){s t:Qm}(V:XR o f=some s)(W:XR o g=some t):∃u,XR o (WY [] f g)=some u/\u.2=Xg s.2 t.2:=by
 obtain⟨A,P,of⟩:=gJ n V;obtain⟨F,R,B⟩:=gJ l W;have x:=of.q8 s (Zc ..);have C:=B.q8 t (Zc ..);have Y:=of.nz s (Zc ..);have Z:=B.nz t (Zc ..);have O:L8 (Xg s.2 t.2):=Vr x C;have H:Pl (WY [] f g):=⟨gl n.q8 l.q8 (fun _ h=>by cases h) n.dc.nz l.dc .nil,nY n.q8 l.q8 (fun _ h=>by cases h)⟩;have p:∀E,X2 (WY [] f g) E=X2 f fun m=>X2 g fun k=>E (Xg m k):=fun E=>by
  rw[bB E n.q8 l.q8 (fun _ h=>by cases h)];simp only[X2];grind
 have r:∀u∈A,WO o u.2 s.2:=fun u i=>(Zu.1 of.pw).1 u i
 have j:∀v∈F,WO o v.2 t.2:=fun v c=>(Zu.1 B.pw).1 v c
 have q:∀v∈g,v=t\/WO o v.2 t.2:=fun v c=>(Zj.1 (R.mem_iff.2 c)).imp_right (j v)
 have M:∀u∈f,u=s\/WO o u.2 s.2:=fun u i=>(Zj.1 (P.mem_iff.2 i)).imp_right (r u)
 have w:∀u∈A,∀v∈g,WO o (Xg u.2 v.2) (Xg s.2 t.2):=fun u i v c=>by
  have y:=of.q8 u (Zb _ i);have D:=l.q8 v c;have G:WO o (Xg v.2 u.2) (Xg v.2 s.2):=(r u i).add D y x;rw[XW v.2 u.2,XW v.2 s.2]at G;rcases q v c with rfl|h
  ·exact G
  ·exact G.trans (Vr y D) (Vr x D) O (h.add x D C)
 have N:∀v∈F,WO o (Xg s.2 v.2) (Xg s.2 t.2):=fun v c=>(j v c).add x (B.q8 v (Zb _ c)) C
 have U:SN (WY [] f g) (Xg s.2 t.2)=s.1*t.1:=by
  rw[Wo,p,<-Pc P];simp only[X2];have z1:X2 A (fun m=>X2 g fun k=>WW (Xg s.2 t.2) (Xg m k))=0:=by
   rw[Ua (ψ:=fun _=>0) fun u i=>Pd fun v c=>by
    unfold WW;rw[if_neg (w u i v c).ne]]
   exact Pb _
  have z2:X2 g (fun k=>WW (Xg s.2 t.2) (Xg s.2 k))=t.1:=by
   rw[<-Pc R];simp only[X2];have z3:X2 F (fun k=>WW (Xg s.2 t.2) (Xg s.2 k))=0:=Pd fun v c=>by
    unfold WW;rw[if_neg (N v c).ne]
   rw[z3];unfold WW;rw[if_pos rfl];grind
  rw[z1,z2];grind
 have L:s.1*t.1≠0:=fun h=>(Rat.mul_eq_zero.1 h).elim Y Z
 have d:=H.SQ.mem (m:=Xg s.2 t.2) (by rw[U];exact L);cases Q:XR o (WY [] f g)with
 |none=>
  rw[Td Q]at d;cases d
 |some u=>
  refine⟨u,rfl,?_⟩;obtain⟨u1,y,u0,u4⟩:=XK H Q;rcases u4 _ d with e|e
  ·exact(congrArg Prod.snd e).symm
  ·
   exfalso;have z:WO o (Xg s.2 t.2) u.2:=e;have X:SN (WY [] f g) u.2=0:=by
    rw[Wo,p];rw[Ua (ψ:=fun _=>0) fun a I=>Pd fun b K=>by
     unfold WW;rw[if_neg];intro h;have S:=n.q8 a I;have T:=l.q8 b K;rcases M a I with rfl|hlt
     ·rcases q b K with rfl|hlt2
      ·rw[h]at z;exact WO.zD z
      ·have:=hlt2.add S T C;rw[h]at this;exact absurd z (this.asymm y O)
     ·have J:a∈A:=(Zj.1 (P.mem_iff.2 I)).resolve_left fun e=>by rw[e]at hlt;exact WO.zD hlt
      have:=w a J b K;rw[h]at this;exact absurd z (this.asymm y O)]
    exact Pb _
   have:=H.SQ.Tj u u1;rw[X]at this;exact u0 this.symm
end Go.Proofs.YtidginchkjhobaaGreat
