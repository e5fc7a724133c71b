/- S-polynomials of divisors, what IsBasis answers: plain facts. -/
import Derived.Test.YtidginchkjhobaaGreatMade
set_option maxHeartbeats 16000000
set_option maxRecDepth 100000
namespace Go.Ev
open Go.Proofs.YtidginchkjhobaaGreat
theorem Ve {z}(b:z≠0){m}(a:L8 m){f}(h:Pl f):Pl (XD z m f):=⟨fy b a h.q8 h.dc,Ud a h.q8⟩
theorem A7 {f}(h:Q8 f):WE f=XD (-1) zM f:=by
 unfold WE X2 XD;exact List.map_congr_left fun t a=>by rw[Qk (h t a)]
theorem Vf {f}(h:Pl f):Pl (WE f):=by
 rw[A7 h.q8];exact Ve (by decide) rfl h
variable {o:M'}{w:P'}{a:Nat}{fs:S'}{d e:Dv}
abbrev PC (d e:Dv):P':=XM d.1.2 e.1.2
theorem OL.s8 (h:OL o w a fs d):L8 d.1.2:=(Xy h.pl h.ld).2.1
theorem OL.s0 (h:OL o w a fs d):d.1.1≠0:=(Xy h.pl h.ld).2.2.1
theorem bo {x:Rat}(h:x≠0):x⁻¹≠0:=by grind
theorem rE (h:OL o w a fs d)(k:OL o w a fs e):L8 (PC d e):=Q9 h.s8 k.s8
theorem pk (b:P'->Rat)(h:OL o w a fs d)(k:OL o w a fs e):XZ (lX d e) b=d.1.1⁻¹*(XZ d.2.1 fun n=>b (Xg (XO (PC d e) d.1.2) n))-e.1.1⁻¹*XZ e.2.1 fun n=>b (Xg (XO (PC d e) e.1.2) n):=by
 have c:=Va (rE h k) h.s8;have m2:=Va (rE h k) k.s8;have f:=Ud (z:=d.1.1⁻¹) c h.pl.q8;have g:=Vf (Ve (bo k.s0) m2 k.pl);show XZ (X8 (XD d.1.1⁻¹ (XO (PC d e) d.1.2) d.2.1) (WE (XD e.1.1⁻¹ (XO (PC d e) e.1.2) e.2.1))) b=_;rw[VG b _ _ _ (Zf _) f g.q8,T4]
 grind [Ux]
theorem iT (h:OL o w a fs d)(k:OL o w a fs e):Pl (lX d e):=
 (Ve (bo h.s0) (Va (rE h k) h.s8) h.pl).add (Vf (Ve (bo k.s0) (Va (rE h k) k.s8) k.pl))
theorem gX (h:OL o w a fs d)(k:OL o w a fs e):Xg (XO (PC d e) d.1.2) d.1.2=PC d e:=by
 rw[XL];exact WD (h.s8.trans (rE h k).symm) (TC _ _ (h.s8.trans k.s8.symm))
theorem gV (h:OL o w a fs d)(k:OL o w a fs e):Xg (XO (PC d e) e.1.2) e.1.2=PC d e:=by
 rw[XL];exact WD (k.s8.trans (rE h k).symm) (Sv _ _ (h.s8.trans k.s8.symm))
theorem gQ (h:OL o w a fs d){m L}(c:L8 m)(f:Xg m d.1.2=L):∀u∈d.2.1,QJ w (Wu w L) (Xg m u.2)/\bG o (Xg m u.2) L:=fun u e=>by
 have b:=h.pl.q8 u e;refine⟨⟨Wo c b,?_⟩,?_⟩
 ·rw[Wr w (c.trans b.symm),<-f,Wr w (c.trans h.s8.symm)];have:=h.wl u e;omega
 ·rw[<-f];exact(jZ h.pl h.ld u e).add c b h.s8
theorem tj (h:OL o w a fs d){m L}(f:L8 m)(c:Xg m d.1.2=L):(XZ d.2.1 fun n=>WJ L (Xg m n))=d.1.1:=by
 obtain⟨g,i,k,j⟩:=Xy h.pl h.ld;rw[aV h.pl g (φ:=fun n=>WJ L (Xg m n)) fun u b=> ?_]
 ·grind [WJ]
 ·rcases j u b with e|e
  ·exact .inl e
  ·right;have:=e.add f (h.pl.q8 u b) i;rw[c]at this;show WJ L (Xg m u.2)=0;unfold WJ;rw[if_neg this.ne]
theorem ym (h:OL o w a fs d)(k:OL o w a fs e):∀x∈lX d e,QJ w (Wu w (PC d e)) x.2/\Wz o x.2 (PC d e):=by
 intro x g;have l:=Va (rE h k) h.s8;have m2:=Va (rE h k) k.s8;have j:=iT h k;have b:QJ w (Wu w (PC d e)) x.2/\bG o x.2 (PC d e):=by
  rcases WC _ (Zf _) (Ud l h.pl.q8) (Vf (Ve (bo k.s0) m2 k.pl)).q8 g with⟨y,c,e⟩|⟨y,c,e⟩
  ·unfold XD at c;obtain⟨u,m,rfl⟩:=ZM.1 c
   grind [gQ,gX]
  ·unfold WE X2 at c;obtain⟨n,f,rfl⟩:=ZM.1 c;unfold XD at f;obtain⟨u,m,rfl⟩:=ZM.1 f
   grind [gQ,gV]
 refine⟨b.1,b.2.resolve_left fun e=> ?_⟩;have i:=j.Sk.U4 x g;rw[Wm,e,pk _ h k,tj h l (gX h k),tj k m2 (gV h k),Rat.inv_mul_cancel _ h.s0,Rat.inv_mul_cancel _ k.s0]at i;exact j.dc.nz x g (by rw[<-i];grind)
theorem eD (h:OL o w a fs d):∃E:Nat,0<E/\E<=a/\∀u∈d.2.1,∃z:Int,d.1.1⁻¹*u.1*(E:Rat)=(z:Rat)/\z.natAbs<=a:=by
 obtain⟨m,s,t,v⟩:=Xy h.pl h.ld;obtain⟨q,p,r,g⟩:=h.cd;obtain⟨c,n,f⟩:=g d.1 m;have k:(q:Rat)≠0:=by
  intro h;have :q=0:=by exact_mod_cast h
  omega
 have b:c≠0:=by
  intro h
  simp_all [Rat.mul_eq_zero]
 obtain⟨e,i,j⟩:=jd c b;refine⟨c.natAbs,Int.natAbs_pos.2 b,f,fun u l=> ?_⟩;obtain⟨y,x,A⟩:=g u l;refine⟨e*y,?_,by grind⟩
 grind
theorem tt {q}(b:Nz q){m n}(a:L8 m):XZ q (fun k=>WJ n (Xg m k))=0\/∃u∈q,XZ q (fun k=>WJ n (Xg m k))=u.1:=by
 have e:XZ q (fun k=>WJ n (Xg m k))=XZ q (fun k=>WJ n (Xg k m)):=Uy fun u _=>by rw[XL]
 rw[e];rcases pV b (m:=m) (n:=n) a with h|⟨u,hu,-,h⟩
 ·exact .inl h
 grind
theorem vM (h:OL o w a fs d)(k:OL o w a fs e):Cf (2*a*a) (lX d e):=by
 have r:=Va (rE h k) h.s8;have m2:=Va (rE h k) k.s8;obtain⟨E,e1,e2,f⟩:=eD h;obtain⟨F,g,i,j⟩:=eD k;have l:E*F<=a*a:=ZA e2 i;refine⟨E*F,ZV e1 g,by grind,fun x q=> ?_⟩;have p:=(iT h k).Sk.U4 x q;rw[Wm,pk _ h k]at p;have s:∃z:Int,d.1.1⁻¹*(XZ d.2.1 fun n=>WJ x.2 (Xg (XO (PC d e) d.1.2) n))*((E*F:Nat):Rat)=(z:Rat)/\z.natAbs<=a*a:=by
  rcases tt h.pl.Sk (m:=XO (PC d e) d.1.2) (n:=x.2) r with e|⟨u,hu,e⟩
  ·exact⟨0,by grind,Zw _⟩
  ·obtain⟨z,b,c⟩:=f u hu;refine⟨z*F,by grind [YF],?_⟩
   simp_all [Yp,ZA]
 have t:∃z:Int,e.1.1⁻¹*(XZ e.2.1 fun n=>WJ x.2 (Xg (XO (PC d e) e.1.2) n))*((E*F:Nat):Rat)=(z:Rat)/\z.natAbs<=a*a:=by
  rcases tt k.pl.Sk (m:=XO (PC d e) e.1.2) (n:=x.2) m2 with e|⟨u,hu,e⟩
  ·exact⟨0,by grind,Zw _⟩
  ·obtain⟨z,b,c⟩:=j u hu;refine⟨z*E,by rw[e,ZT,Rat.natCast_mul,<-Rat.mul_assoc,b,Rat.intCast_mul,YF],?_⟩
   simp_all [Yp,ZA]
 obtain⟨z,b,c⟩:=s;obtain⟨y,v,A⟩:=t;refine⟨z-y,?_,?_⟩
 ·grind
 grind
theorem I2 {k}(v:k<200000000000)(y:a<4294967296^k)(i:w.length=8)(n:∀x∈w,0<x)(j:Wu w (PC d e)<=65535)(h:OL o w a fs d)(g:OL o w a fs e):FM d e:=by
 have p:=Va (rE h g) h.s8;have m2:=Va (rE h g) g.s8;have b:∀{d:Dv},OL o w a fs d->∀u∈d.2.1,Sq u.1:=fun{d} h u c=>by
  obtain⟨q,z,A,B⟩:=h.cd
  grind [Sq.le]
 have f:∀{d:Dv} (m:P'),OL o w a fs d->Sz (XD d.1.1⁻¹ m d.2.1):=fun{d} m h t l=>by
  unfold XD at l;obtain⟨u,c,rfl⟩:=ZM.1 l
  grind [eD,Sq.le]
 have r:=(Xy h.pl h.ld).1;have s:=(Xy g.pl g.ld).1;exact⟨b h _ r,h.s0,b g _ s,g.s0,b h,b g,fun u c=>(gQ h p (gX h g) u c).1.ok i n j,fun u c=>(gQ g m2 (gV h g) u c).1.ok i n j,f _ h,f _ g,by have:=h.len;omega,by have:=g.len;omega⟩
def wL (o:M')(w:P')(d e:Dv):J':=(TQ o (allM w (Wu w (PC d e)))).filter fun n=>decide (Wz o n (PC d e))
theorem Im (l:w.length=8)(k:∀x∈w,0<x)(h:OL o w a fs d)(g:OL o w a fs e):F7 o w (Wu w (PC d e)) (wL o w d e):=by
 have f:∀n∈allM w (Wu w (PC d e)),QJ w (Wu w (PC d e)) n:=fun n c=>by
  obtain⟨a,b⟩:=NH c k;omega
 refine⟨(bP fun n c=>(f n c).1).sublist List.filter_sublist,fun n c=>f n (WU.1 (Yh.1 c).1),fun p j n c i=> ?_⟩;obtain⟨m,x2⟩:=Yh.1 j;refine Yh.2 ⟨WU.2 (To (l.trans c.1.symm) k c.2),?_⟩;exact decide_eq_true (i.trans c.1 (f p (WU.1 m)).1 (rE h g) (of_decide_eq_true x2))
theorem yT (c:w.length=8)(f:∀x∈w,0<x){n}(b:QJ w (Wu w (PC d e)) n)(a:Wz o n (PC d e)):n∈wL o w d e:=
 Yh.2 ⟨WU.2 (To (c.trans b.1.symm) f b.2),decide_eq_true a⟩
theorem ah {n}(g:w.length=8)(c:∀x∈w,0<x)(h:n∈wL o w d e):QJ w (Wu w (PC d e)) n/\Wz o n (PC d e):=by
 obtain⟨f,x2⟩:=Yh.1 h;obtain⟨a,b⟩:=NH (WU.1 f) c
 grind
theorem yl (h:OL o w a fs d)(g:OL o w a fs e){P:P'->Prop}(j:P (PC d e)):UP o fs P fun b=>XZ (lX d e) b:=by
 have f:=Va (rE h g) h.s8;have m2:=Va (rE h g) g.s8;have i:UP o fs P _:=UP.add (c:=d.1.1⁻¹) (P:=P) (v:=fun b=>d.1.1⁻¹*XZ d.2.1 fun n=>b (Xg (XO (PC d e) d.1.2) n)) (w:=fun _=>0) h.mem h.ld f (by grind [gX]) (.zero fun _=>rfl) fun b=>by grind
 refine UP.add (c:= -e.1.1⁻¹) g.mem g.ld m2 (by grind [gV]) i fun b=> ?_
 rw[pk _ h g];grind
variable {o:M'}{w:P'}
theorem oX:∀w s t,Wu w (XM s t)<=Wu w s+Wu w t
 |[],_,_=>by simp[Wu]
 |_::_,[],_=>by simp[Wu,XM]
 |_::_,_::_,[]=>by simp[Wu,XM]
 |a::w,x::s,y::t=>by
  have b:=oX w s t
  grind [XM,Zz,Wu]
theorem PJ {f}(h:Pl f):S3 f:=h.Sk.nd
variable {o:M'}{w:P'}
def FV (o:M')(w:P')(fs:S'):Prop:=∀V,IF o w V fs
theorem ij:∀l i,(∀f∈l,Pl f)->∀f∈l,∀s,XB o f=some s->∃d∈Vl o l i,d.1=s/\d.2.1=f
 |[],_,_,f,a,_,_=>by cases a
 |g::l,i,hp,f,a,s,hs=>by
  have b:=ij l (i+1) fun f a=>hp f (Za _ a)
  unfold Vl;split
  ·rename_i e;rcases Zk.1 a with rfl|a
   ·have :f=[]:=by
     grind [Sh]
    subst this;cases hs
   ·exact b f a s hs
  ·rename_i t c e;rcases Zk.1 a with rfl|a
   ·have:=PA (hp f (Zc ..)) e
    grind [Zc]
   grind
theorem DJ {n i p q}(d:i<=n):(p,q)∈RU n i↔p<i/\p<q/\q<n:=by
 unfold RU pN;simp only[YB,List.mem_range,ZM];constructor
 ·grind
 ·rintro ⟨a,b,c⟩;exact⟨p,a,q-(p+1),by omega,by grind⟩
def Kr (o:M')(fs gs:S'):Prop:=∀g∈gs,∀s,XB o g=some s->∃f∈fs,∃s',XB o f=some s'/\s'.2=s.2/\∃q:Rat,∀φ,XZ g φ=q*XZ f φ
theorem Dp {fs a}(h:Kr o fs a){P:P'->Prop}{v}(r:UP o a P v):UP o fs P v:=by
 induction r with
 |zero h=>exact .zero h
 |@add v w g s c m k n l i u p t=>
  obtain⟨f,j,x,b,d,q,e⟩:=h g k s n;exact .add (c:=c*q) j b l (by rw[d];exact i) t fun y=>by rw[p,e];grind
theorem FV.MW {fs a}(h:Kr o fs a)(k:Kr o a fs)(b:FV o w fs):FV o w a:=by
 intro V v c;rcases b V v (Dp h c)with h1|⟨δ,f,s,h1,h2,h3,h4,h5,h6⟩
 ·exact .inl h1
 ·obtain⟨g,i,j,d,e,-⟩:=k f h4 s h5
  grind
abbrev ib (n:Bool)(l:PL):Xx:=⟨false,0,2,[[.p (.bool n),.p l]],false,46⟩
theorem yu {E}{K}{n}{o q}{b}(c:UB o b)(s:UB q b)(u:b.length<10000000000000):∀d i k,i+d=b.length->d<k->
  ∃e,Xb E K 0 [2,3,5] x174_1 k ⟨[(2,.one (.ptr 0 0 0 0)),(3,.one (.ptr 1 0 0 0)),(5,La1 i)],[ib n o,ib n q]⟩=some (.exit 0,⟨e,[ib n o,ib n q]⟩)
 |0,i,k,hi,hk=>by
  rcases k with _|k;omega;rw[ZU]at hi;subst hi;have a:=c.len;apply Exists.intro;rw[Xb];simp only[Xo,Xs,reduceIte,Nat.reduceEqDiff,Nat.reduceLeDiff,x174_1,ib,a,Zx];rfl
 |d+1,i,k,hi,hk=>by
  rcases k with _|k;omega;obtain⟨e,g⟩:=yu (E:=E) (K:=K) (n:=n) c s u d (i+1) k (by omega) (by omega);have r:b[i]? =some b[i]:=Zd (by omega);have a:=c.len;have j:i<b.length:=by omega
  have v:=fun(f:HF) (m:IntKind)=>c.idx (h:=f) (k:=m) r
  have w:=fun(f:HF) (m:IntKind)=>s.idx (h:=f) (k:=m) r
  have t:Xd .i64 (.ofNat (i+1))=.ofNat (i+1):=wrap_i64 (by omega);refine⟨e,?_⟩;rw[Xb];simp+decide only[Xo,Xs,reduceIte,Nat.reduceAdd,x174_1,ib,a,j,v,w,t];exact g
theorem nn {B}(f:Std B){c d}{z}(i:Tc c z)(j:Tc d z)(p:(Xe z.natAbs).length<2000000000000):Xv B 174 [.agg c,.agg d] (.one (.bool true)):=by
 obtain⟨q,rfl,a⟩:=i;obtain⟨r,rfl,e⟩:=j;refine Xv.of (f.Wa _ _ rfl) ((XT.ge ((Xe z.natAbs).length+1)).mono fun E K o=> ?_);obtain⟨m,g⟩:=yu (E:=E) (K:=K) (n:=decide (z<0)) a e (by omega) (Xe z.natAbs).length 0 K (by omega) (by omega);have k:=UB.len a;have l:=UB.len e;have h:∀b:Bool,(b==b)=true:=fun b=>beq_self_eq_true b
 simp only[ib]at g;generalize decide (z<0)=n at *;simp+decide only[Xo,Xs,reduceIte,Nat.reduceAdd,x174,k,l,g,h]
theorem Ar {B}(a:Std B){c d}{x}(l:Rw c x)(o:Rw d x)(f:Sq x):Xv B 149 [.agg c,.agg d] (.one (.bool true)):=by
 obtain⟨n,m,r,e,rfl,h,i⟩:=l;obtain⟨u,t,g,s,rfl,j,k⟩:=o;have p:=nn a h j (by have:=f.1;omega);have q:=nn a i k (by have:=f.2;simp only[Z3];omega);refine Xv.of (a.Wa _ _ rfl) ((p.Xk.and (q.Xk.and a.Xk)).mono fun E K ⟨e1,e2,b⟩=> ?_);simp+decide only[Xo,Xs,Vv,reduceIte,Nat.reduceAdd,x149,b,X3,e1,e2]
theorem Aq {B}(f:Std B){c d}{t}(l:Vn c t)(m:Vn d t)(n:Sq t.1):Xv B 111 [.agg c,.agg d] (.one (.bool true)):=by
 obtain⟨a,b,c,e,rfl,i,g⟩:=l;obtain⟨r,s,u,v,rfl,j,-⟩:=m;have o:=Ar f i j n;have k:=U3 g.1 g.1;have p:=g.1;have q:(Xu t.2).take 8=Xu t.2:=Ze (by rw[Xc];omega);refine Xv.of (f.Wa _ _ rfl) ((o.Xk.and f.Xk).mono fun E K ⟨e1,h⟩=> ?_);simp+decide only[Xo,Xs,Vv,reduceIte,Nat.reduceAdd,x111,h,X3,e1,k,q,p,Wj,Xc]
inductive FN (E:Xa):Z'->Z'->Prop
 |nil:FN E [] []
 |cons {c d:N'} {cs ds:Z'} (hc:∃a b e f m,c=a::b::e::f::mo m/\m.length=8) (hd:∃a b e f m,d=a::b::e::f::mo m/\m.length=8) (h1:E.pure 111 [.agg c,.agg d]=some (.one (.bool true))) (h:FN E cs ds):FN E (c::cs) (d::ds)
theorem sH {B}(l:Std B):∀{j g} {i},X6 j i->X6 g i->Sz i->XT B fun E _=>FN E j g
 |[],g,_,.nil,h,_=>by cases h;exact XT.of fun _ _=>.nil
 |c::j,g,t::i,.cons h1 h,k,hs=>by
  cases k with
  |@cons d _ g _ n k=>
   have e1:=Aq l h1 n (hs t (Zc ..));obtain⟨a,b,e,f,rfl,-,m⟩:=h1;obtain⟨p,q,r,s,rfl,-,-⟩:=n;exact((sH l h k fun u o=>hs u (Za _ o)).and e1.Xk).mono fun E K ⟨x,y⟩=>.cons ⟨_,_,_,_,_,rfl,m.1⟩ ⟨_,_,_,_,_,rfl,m.1⟩ y x
theorem GB {E}{K}(t:E.mode=md){B C}{a x}(w:Sl B a)(Q:Sl C x)(Z:a.length<1000000):∀{e f},FN E e f->∀i k,a.drop i=e->x.drop i=f->i+e.length=a.length->e.length<k->
  ∃l,Xb E K 0 [0,1,5] x57_1 k ⟨[(0,La4 B),(1,La4 C),(5,La1 i)],[]⟩=some (.exit 0,⟨l,[]⟩):=by
 intro e f h;induction h with
 |nil=>
  intro i k _ _ j y;rcases k with _|k;omega;simp only[Zr,ZU]at j;subst j;have b:=w.len;apply Exists.intro;rw[Xb];simp only[Xo,Xs,reduceIte,Nat.reduceEqDiff,x57_1,b,Zx];rfl
 |@cons c d e f L M J h O=>
  intro i k o q j y;rcases k with _|k;omega;simp only[Zj]at j y;obtain⟨H,D⟩:=Xh o;obtain⟨I,F⟩:=Xh q;obtain⟨l,g⟩:=O (i+1) k D F (by omega) (by omega);obtain⟨T,U,c3,c4,m,rfl,z⟩:=L;obtain⟨V,W,X,Y,n,rfl,A⟩:=M;have b:=w.len;have s:i<a.length:=by omega
  have N:=fun(r:HF) (v:IntKind)=>w.idx (h:=r) (k:=v) (sz:=12) H (by simp[XI,z])
  have P:=fun(r:HF) (v:IntKind)=>Q.idx (h:=r) (k:=v) (sz:=12) I (by simp[XI,A])
  have G:Xd .i64 (.ofNat (i+1))=.ofNat (i+1):=wrap_i64 (by omega);have R:(Xu m).take 8=Xu m:=Ze (by rw[Xc];omega);have S:(Xu n).take 8=Xu n:=Ze (by rw[Xc];omega);refine⟨l,?_⟩;rw[Xb];simp+decide only[Xo,Xs,Vv,reduceIte,Nat.reduceAdd,x57_1,t,X3,b,s,N,P,G,R,S,z,A,J,Wj,Xc,Wc,Wg];exact g
theorem Da {B}(b:Std B){i j}{a}(p:PQ i a)(q:PQ j a)(r:Sz a)(v:a.length<1000000):Xv B 57 [.one i,.one j] (.one (.bool true)):=by
 obtain⟨o,m,k⟩:=p;obtain⟨t,n,l⟩:=q;have d:=k.length;have e:=l.length;refine Xv.of (b.Wa _ _ rfl) (((sH b k l r).and (b.Xk.and (XT.ge (a.length+1)))).mono fun E K ⟨e1,c,u⟩=> ?_);obtain⟨s,g⟩:=GB (K:=K) c m n (by omega) e1 0 K rfl rfl (by omega) (by omega);have f:=m.len;have h:=n.len;rw[d]at f;rw[e]at h;simp+decide only[Xo,Xs,reduceIte,Nat.reduceAdd,x57,f,h,g]
inductive FO (E:Xa):N'->N'->Prop
 |nil:FO E [] []
 |cons {p q:PL} {ps qs:N'} (h1:E.pure 57 [.one p,.one q]=some (.one (.bool true))) (h:FO E ps qs):FO E (p::ps) (q::qs)
theorem sI {B}(d:Std B):∀{c e} {fs},VV c fs->VV e fs->(∀f∈fs,Sz f/\f.length<1000000)->XT B fun E _=>FO E c e
 |[],_,_,.nil,h,_=>by cases h;exact XT.of fun _ _=>.nil
 |p::c,_,f::fs,.cons h1 h,k,hs=>by
  cases k with
  |cons i k=>
   obtain⟨a,b⟩:=hs f (Zc ..);exact((sI d h k fun u g=>hs u (Za _ g)).and (Da d h1 i a b).Xk).mono fun E K ⟨x,y⟩=>.cons y x
theorem GC {E}{K}(o:E.mode=md){w x}{a u}(t:Sl w (Xf a))(I:Sl x (Xf u))(J:a.length<1000000):∀{c e},FO E c e->∀i k,a.drop i=c->u.drop i=e->i+c.length=a.length->c.length<k->
  ∃f,Xb E K 0 [0,1,5] x21_1 k ⟨[(0,La4 w),(1,La4 x),(5,La1 i)],[]⟩=some (.exit 0,⟨f,[]⟩):=by
 intro c e h;induction h with
 |nil=>
  intro i k _ _ d v;rcases k with _|k;omega;simp only[Zr,ZU]at d;subst d;have b:=t.len;apply Exists.intro;rw[Xb];simp only[Xo,Xs,reduceIte,Nat.reduceEqDiff,x21_1,b,Xt,Zx];rfl
 |@cons p q c e D h G=>
  intro i k j l d v;rcases k with _|k;omega;simp only[Zj]at d v;obtain⟨B,y⟩:=Xh j;obtain⟨C,z⟩:=Xh l;obtain⟨f,g⟩:=G (i+1) k y z (by omega) (by omega);have b:=t.len;have n:i<a.length:=by omega
  have F:=fun(m:HF) (s:IntKind)=>t.idx (h:=m) (k:=s) (sz:=1) (XK B) rfl
  have H:=fun(m:HF) (s:IntKind)=>I.idx (h:=m) (k:=s) (sz:=1) (XK C) rfl
  have A:Xd .i64 (.ofNat (i+1))=.ofNat (i+1):=wrap_i64 (by omega);refine⟨f,?_⟩;rw[Xb];simp+decide only[Xo,Xs,Vv,reduceIte,Nat.reduceAdd,x21_1,o,X3,b,Xt,n,F,H,A,D];exact g
theorem Db {B}(b:Std B){la lb}{a h}{fs}(m:Sl la (Xf a))(n:Sl lb (Xf h))(i:VV a fs)(j:VV h fs)(o:∀f∈fs,Sz f/\f.length<1000000)(r:fs.length<1000000):Xv B 21 [.one la,.one lb] (.one (.bool true)):=by
 have d:=i.length;have e:=j.length;refine Xv.of (b.Wa _ _ rfl) (((sI b i j o).and (b.Xk.and (XT.ge (fs.length+1)))).mono fun E K ⟨e1,c,q⟩=> ?_);obtain⟨p,g⟩:=GC (K:=K) c m n (by omega) e1 0 K rfl rfl (by omega) (by omega);have k:=m.len;have l:=n.len;rw[Xt,d]at k;rw[Xt,e]at l;simp+decide only[Xo,Xs,reduceIte,Nat.reduceAdd,x21,k,l,g]
