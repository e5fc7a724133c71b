/- The list of the Schreyer syzygies of a basis, with the places of the pairs. -/
import Derived.Test.YtidginchkjhobaaGreatSch
set_option maxHeartbeats 16000000
set_option maxRecDepth 100000
namespace Go.Ev
open Go.Proofs.YtidginchkjhobaaGreat
abbrev DO (i j n:Nat):Nat:=i*(2*n-i-1) / 2+j-i-1
theorem DN {B}(a:Std B){i j n}(l:i<j)(o:j<n)(p:n<=1000):
  Xv B 65 [.one (La0 i),.one (La0 j),.one (La0 n)] (.one (La0 (DO i j n))):=by
 have h0:i*(2*n-i-1)<=1000*2000:=ZA (by omega) (by omega);have b:Xd .i64 (.ofNat (2*n))=.ofNat (2*n):=wrap_i64 (by omega);have c:Xd .i64 (.ofNat (2*n)-.ofNat i)=.ofNat (2*n-i):=X9 (by omega) (by omega);have d:Xd .i64 (.ofNat (2*n-i)-.ofNat 1)=.ofNat (2*n-i-1):=X9 (by omega) (by omega);have e:Xd .i64 (.ofNat (i*(2*n-i-1)))=.ofNat (i*(2*n-i-1)):=wrap_i64 (by omega);have f:Xd .i64 (.ofNat (i*(2*n-i-1) / 2))=.ofNat (i*(2*n-i-1) / 2):=wrap_i64 (by omega);have g:Xd .i64 (.ofNat (i*(2*n-i-1) / 2+j))=.ofNat (i*(2*n-i-1) / 2+j):=wrap_i64 (by omega);have h:Xd .i64 (.ofNat (i*(2*n-i-1) / 2+j)-.ofNat i)=.ofNat (i*(2*n-i-1) / 2+j-i):=X9 (by omega) (by omega);have k:Xd .i64 (.ofNat (i*(2*n-i-1) / 2+j-i)-.ofNat 1)=.ofNat (DO i j n):=X9 (by omega) (by omega);refine Xv.of (a.Wa _ _ rfl) (a.Xk.mono fun E K m=> ?_);simp+decide only[Xo,Xs,reduceIte,Nat.reduceAdd,x65,b,c,d,e,f,g,h,k]
structure Ko (o:M')(w:P')(fs:S')(S:Nat)(i j:Nat)(s t:Qm)(L:S'):Prop where
 len:L.length=fs.length
 pl:∀Q∈L,Pl Q
 fr:∃E,0<E/\E<=S/\∀Q∈L,W8 E S Q
 ln:∀Q∈L,Q.length<=212
 mem:∀(h:Nat) (Q f:I') (r:Qm),L[h]? =some Q->fs[h]? =some f->XB o f=some r->∀u∈Q,QJ w (Wu w (XM s.2 t.2)) (Xg u.2 r.2)/\((Xg u.2 r.2=XM s.2 t.2/\(h=i\/h=j))\/Wz o (Xg u.2 r.2) (XM s.2 t.2))
 co:∀Q,L[i]? =some Q->TD Q (XO (XM s.2 t.2) s.2)=s.1⁻¹
 z:∀φ,WA L fs φ=0
section
variable {o:M'}{w:P'}{h V:Nat}{fs:S'}{f g:I'}{s t:Qm}{us vs:I'}{n k i j:Nat}{tq Qs:S'}{D C:Nat}
theorem zW.MK (P:zW o w h fs (s,f,us,0) (t,g,vs,0) n k tq Qs D C)(H:aD o w h V fs)(c:fs[i]? =some f)(A:fs[j]? =some g)(I:i<j):Ko o w fs (32^(214*h+3)) i j s t (jg fs.length i j s t Qs):=by
 have v:=P.vec H c A (by omega);obtain⟨B,M,E,R,T,F⟩:=v.fr;have W:L8 (XM s.2 t.2):=Q9 P.hd.s8 P.he.s8;have Y:L8 s.2:=P.hd.s8;have Z:L8 t.2:=P.he.s8;have N:Xg (XO (XM s.2 t.2) s.2) s.2=XM s.2 t.2:=by grind [XL,WD,TC]
 have O:Xg (XO (XM s.2 t.2) t.2) t.2=XM s.2 t.2:=by grind [XL,WD,Sv]
 have K:XB o f=some s:=P.hd.ld;have U:XB o g=some t:=P.he.ld;refine⟨v.len,v.pl,⟨B,E,by omega,fun Q a=>(F Q a).mono (by omega)⟩,v.ln,fun L X G r e d J u l=> ?_,fun X e=> ?_,P.zero H c A⟩
 ·obtain⟨Q,a,rfl⟩:=Pq P.S.mv e;have q:=P.pQ H Q (Zh a);rcases WC _ (Zf _) ((TI P.pX).add (TI P.pY)).q8 (Vf q).q8 l with⟨y,p,z⟩|⟨y,p,z⟩
  ·rcases WC _ (Zf _) (TI P.pX).q8 (TI P.pY).q8 p with⟨x,m,b⟩|⟨x,m,b⟩
   ·grind
   grind
  ·obtain⟨x,m,b,-⟩:=RF p;rw[<-z,b];have k:=ah H.w8 H.wp ((P.S.up L Q G r a d J).2 x m).1
   grind
 ·obtain⟨Q,a,rfl⟩:=Pq P.S.mv e;have q:=P.pQ H Q (Zh a);rw[if_pos rfl,if_neg (by omega),W6,ly P.pX.q8 (Vf q).q8,Fs,PM,if_pos rfl,du,QC fun u l h=> ?_]
  ·grind
  ·have k:=(ah H.w8 H.wp ((P.S.up i Q f s a c K).2 u l).1).2
   grind [Wz.vD]
end
def KB (o:M')(w:P')(fs:S')(S i j:Nat)(L:S'):Prop:=
 ∃f g s t,fs[i]? =some f/\fs[j]? =some g/\XB o f=some s/\XB o g=some t/\Ko o w fs S i j s t L
section
variable {B:Xq}{o:M'}{w:P'}{h V:Nat}{fs:S'}{lo G:PL}{gs:N'}
theorem aD.Lm (x:fG B)(H:aD o w h V fs)(I:SA lo o)(A:Xv B 50 [.one lo] (.one (.bool true)))(F:Sl G (Xf gs))(c:VV gs fs){i:Nat}{p:PL}{f:I'}(z:gs[i]? =some p)(b:fs[i]? =some f):
  ∀(m:N') (j:Nat),i<j->gs.drop j=m->j+m.length=gs.length->∃a r,(XT B fun E _=>NJ E G lo p i gs.length j m a)/\XE VV a r/\r.length=m.length/\∀(d:Nat) L,r[d]? =some L->KB o w fs (32^(214*h+3)) i (j+d) L
 |[],j,_,_,hj=>⟨[],[],XT.of fun _ _=>.nil _,.nil,rfl,fun d L h=>by simp at h⟩
 |q::m,j,hij,hd,hj=>by
  simp only[Zj]at hj;obtain⟨O,N⟩:=Xh hd;obtain⟨a,r,R,S,T,W⟩:=aD.Lm x H I A F c z b m (j+1) (by omega) N (by omega);have Q:=c.length;have e:=Zd (l:=fs) (i:=j) (by omega);generalize fs[j]=g at e;obtain⟨s,us,u⟩:=sj (o:=o) (H.el f (Zh b)).ne;obtain⟨t,vs,v⟩:=sj (o:=o) (H.el g (Zh e)).ne;obtain⟨n,k,tq,Qs,D,C,P⟩:=H.pair ((H.el f (Zh b)).M1 (Zh b) u 0) ((H.el g (Zh e)).M1 (Zh e) v 0);obtain⟨U,J,M⟩:=H.jF x I A F c hij z O b e P u v;refine⟨U::a,jg fs.length i j s t Qs::r,(R.and J).mono fun E K ⟨e1,e2⟩=>.cons e2 e1,.cons M S,by simp[T],fun d L y=> ?_⟩;cases d with
  |zero=>
   rw[List.getElem?_cons_zero]at y;cases y;exact⟨f,g,s,t,b,e,P.hd.ld,P.he.ld,P.MK H b e hij⟩
  |succ d=>
   grind
theorem DM {a i n}(b:i<a)(c:a<n):(a-i)*(2*n-a-i-1)=2*(n-1-i)+(a-(i+1))*(2*n-a-(i+1)-1):=by
 obtain⟨p,d⟩:∃p,a=i+1+p:=⟨a-(i+1),by omega⟩;obtain⟨q,e⟩:∃q,2*n-a-(i+1)-1=q:=⟨_,rfl⟩;have e1:a-i=p+1:=by omega
 have e2:2*n-a-i-1=q+1:=by omega
 grind [ZX,Nat.mul_add]
theorem aD.Ij (t:fG B)(H:aD o w h V fs)(y:SA lo o)(v:Xv B 50 [.one lo] (.one (.bool true)))(x:Sl G (Xf gs))(d:VV gs fs):
  ∀c i,gs.drop i=c->i+c.length=gs.length->∃g j,(XT B fun E _=>fH E G lo gs.length i c g)/\XE VV g j/\2*j.length=c.length*(c.length-1)/\(∀a b,i<=a->a<b->b<gs.length->∃k L,2*k=(a-i)*(2*gs.length-a-i-1)+2*(b-a-1)/\j[k]? =some L/\KB o w fs (32^(214*h+3)) a b L)/\∀L∈j,∃a b,KB o w fs (32^(214*h+3)) a b L
 |[],i,_,hi=>⟨[],[],XT.of fun _ _=>.nil _,.nil,rfl,fun a b D r s=>by simp at hi;omega,fun L h=>by cases h⟩
 |p::c,i,hd,hi=>by
  simp only[Zj]at hi;obtain⟨C,q⟩:=Xh hd;obtain⟨x2,z,J,M,N,O,W⟩:=aD.Ij t H y v x d c (i+1) q (by omega);have F:=d.length;have u:=Zd (l:=fs) (i:=i) (by omega);generalize fs[i]=f at u;obtain⟨S,m,P,m2,Q,X⟩:=aD.Lm t H y v x d C u c (i+1) (by omega) q (by omega);refine⟨S++x2,m++z,(J.and P).mono fun E K ⟨e1,A⟩=>.cons A e1,m2.append M,?_,fun a b D r s=> ?_,fun L T=> ?_⟩
  ·rw[Zn,Zj,Nat.mul_add,N,Q,Ys];cases U:c.length with
   |zero=>rfl
   |succ n=>grind
  ·rcases Z8 i a with hia|hia
   ·obtain⟨k,L,Y,Z,R⟩:=O a b (by omega) r s;refine⟨c.length+k,L,?_,?_,R⟩
    ·rw[DM hia (by omega)];omega
    simp_all [ZZ]
   ·obtain rfl:a=i:=by omega
    have I:b-a-1<m.length:=by omega
    have e:=Zd I
    grind
  grind [Zv]
theorem aD.MJ (g:mL B)(H:aD o w h V fs)(r:SA lo o)(m:Xv B 50 [.one lo] (.one (.bool true)))(j:Sl G (Xf gs))(c:VV gs fs):
  ∃M d e,Sl M (Xf (gF d))/\Xv B 19 [.one G,.one lo] (.Wd [.one M,.one (La0 0)])/\XE VV d e/\2*e.length=fs.length*(fs.length-1)/\(∀a b,a<b->b<fs.length->∃L,e[DO a b fs.length]? =some L/\KB o w fs (32^(214*h+3)) a b L)/\∀L∈e,∃a b,KB o w fs (32^(214*h+3)) a b L:=by
 have F:=H.ln;have l:=c.length;obtain⟨d,e,z,A,p,q,C⟩:=H.Ij g.tofG r m j c gs 0 rfl (by omega);obtain⟨M,E,D⟩:=jf g.toStd j (by omega) z;have n:=qO g.toStd j c (by omega);have i:(fs.map fun f=>decide (f.length=0)).any id=false:=by
  rw[List.any_eq_false];intro x y;obtain⟨f,v,rfl⟩:=ZM.1 y;have:=(H.el f v).ne
  grind
 rw[i]at n;rw[l]at p q;refine⟨M,d,e,E,sG g.toStd m n (H.Hm g r m j c) D,A,p,fun a b t u=> ?_,C⟩;obtain⟨k,L,e1,e2,s⟩:=q a b (by omega) t u;refine⟨L,?_,s⟩
 grind
end
variable {o:M'}{w:P'}
structure VJ (o:M')(w:P')(W:Nat)(fs:S')(D x:Nat)(vs:S'):Prop where
 len:vs.length=fs.length
 pl:∀Q∈vs,Pl Q
 fr:∀Q∈vs,W8 D x Q
 wt:∀h m,Pr o fs vs h m->QJ w W m
theorem BL {W S}{fs vs}{D x E}(A:VJ o w W fs D x vs)(a0:∀f∈fs,∃r,XB o f=some r/\L8 r.2){a b}(a3:a<b)(hb:b<fs.length){J f g}{t s d}(l:vs[a]? =some J)(hf:fs[a]? =some f)(hg:fs[b]? =some g)(ht:XB o J=some t)(hs:XB o f=some s)(a6:XB o g=some d)(V:L8 s.2)(a1:L8 d.2)(s0:s.1≠0){m}(hm:m=Xg t.2 s.2)(a4:Ww (XM s.2 d.2) m=true)
  (a2:∀h c,h<a->Pr o fs vs h c->Wz o c m) (R:∀h c,Pr o fs vs h c->bG o c m) (m1:s.1=1) {L} (K:Ko o w fs S a b s d L) (hE:0<E/\E<=S/\∀Q∈L,W8 E S Q):
  VJ o w W fs (D*E) (x*(212*S)) (List.zipWith X8 vs (L.map (XD (-(t.1*s.1)) (XO m (XM s.2 d.2)))))/\
  ∀h c,Pr o fs (List.zipWith X8 vs (L.map (XD (-(t.1*s.1)) (XO m (XM s.2 d.2))))) h c->Wz o c m\/(c=m/\a<h):=by
 have U:=A.pl J (Zh l);obtain⟨t1,t8,t0,t4⟩:=Xy U ht;have l8:L8 (XM s.2 d.2):=Q9 V a1;have m8:L8 m:=by grind [Wo]
 have n:L8 (XO m (XM s.2 d.2)):=Va m8 l8;have hq:Xg (XO m (XM s.2 d.2)) (XM s.2 d.2)=m:=by grind [XL,WD]
 have a7:QJ w W m:=A.wt a m ⟨J,f,s,t,l,hf,hs,t1,hm⟩;have B: -(t.1*s.1)≠0:=fun e=>(T6 t0 s0) (by grind)
 generalize a5:XO m (XM s.2 d.2)=q at n hq;have tm:∀(h:Nat) (X f:I') (r:Qm),L[h]? =some X->fs[h]? =some f->XB o f=some r->L8 r.2->∀u∈X,L8 u.2/\QJ w W (Xg (Xg q u.2) r.2)/\((Xg (Xg q u.2) r.2=m/\(h=a\/h=b))\/Wz o (Xg (Xg q u.2) r.2) m):=fun h X f r G hf H r8 u i=>by
  have u8:=(K.pl X (Zh G)).q8 u i;obtain⟨⟨k1,k2⟩,k3⟩:=K.mem h X f r G hf H u i;have e:Xg (Xg q u.2) r.2=Xg q (Xg u.2 r.2):=Vj _ _ _;rw[e];refine⟨u8,⟨Wo n k1,?_⟩,?_⟩
  ·grind [Wr]
  ·rcases k3 with⟨k3,k4⟩|k3
   ·grind
   ·exact .inr (by have:=k3.add n k1 l8;rwa[hq]at this)
 have split:∀(h:Nat) (Y:I'),(List.zipWith X8 vs (L.map (XD (-(t.1*s.1)) q)))[h]? =some Y->∃Q X,vs[h]? =some Q/\L[h]? =some X/\Pl Q/\Pl X/\Y=X8 Q (XD (-(t.1*s.1)) q X):=fun h Y e=>by
  obtain⟨Q,T,e1,e2,rfl⟩:=gK e;rw[ZR]at e2;cases G:L[h]? with
  |none=>rw[G]at e2;cases e2
  |some X=>
   rw[G]at e2;cases e2;exact⟨Q,X,e1,rfl,A.pl Q (Zh e1),K.pl X (Zh G),rfl⟩
 have pr:∀h c,Pr o fs (List.zipWith X8 vs (L.map (XD (-(t.1*s.1)) q))) h c->QJ w W c/\(Wz o c m\/(c=m/\a<h)):=by
  rintro h c ⟨Y,f',r,u,M,j,H,i,rfl⟩;obtain⟨Q,X,p,z,F,I,rfl⟩:=split h Y M;obtain⟨r',N,r8⟩:=a0 f' (Zh j);rw[H]at N;cases N;have pT:=eA B n I;have pY:=F.add pT;have u8:=pY.q8 u i;by_cases ha:h=a/\Xg u.2 r.2=m
  ·
   exfalso;obtain⟨rfl,e⟩:=ha;rw[l]at p;cases p;rw[hf]at j;cases j;rw[hs]at H;cases H;have ut:u.2=t.2:=by
    grind [XL,UH]
   have Z:=pY.Sk.U4 u i;rw[ut,ly F.q8 pT.q8]at Z;have c1:TD J t.2=t.1:=U.dc.UU t t1;have e2:t.2=Xg q (XO (XM s.2 d.2) s.2):=by
    have p:Xg (XO (XM s.2 d.2) s.2) s.2=XM s.2 d.2:=by grind [XL,WD,TC]
    have z:Xg (Xg q (XO (XM s.2 d.2) s.2)) s.2=Xg t.2 s.2:=by grind [Vj]
    rw[XL _ s.2,XL t.2]at z;exact(UH (V.trans (Wo n (Va l8 V)).symm) (V.trans t8.symm) z).symm
   have c2:TD (XD (-(t.1*s.1)) q X) t.2= -(t.1*s.1)*TD X (XO (XM s.2 d.2) s.2):=by
    rw[Wm,Wm,Ux];congr 1;refine Uy fun v O=> ?_
    unfold WJ;have v8:=I.q8 v O;by_cases P:v.2=XO (XM s.2 d.2) s.2
    ·grind
    ·rw[if_neg P,if_neg fun e=>P (by rw[e2]at e;exact UH (n.trans v8.symm) (n.trans (Va l8 V).symm) e)]
   rw[c1,c2,K.co X z]at Z;have hz:t.1+ -(t.1*s.1)*s.1⁻¹=0:=by
    grind
   rw[hz]at Z;exact pY.dc.nz u i Z.symm
  ·rcases WC _ (Zf _) F.q8 pT.q8 i with⟨v,O,ev⟩|⟨v,O,ev⟩
   ·have C:Pr o fs vs h (Xg u.2 r.2):=⟨Q,f',r,v,p,j,H,O,by rw[ev]⟩;refine⟨A.wt h _ C,?_⟩;rcases Nat.lt_trichotomy h a with e|e|e
    ·grind
    ·rcases R h _ C with k|k
     ·grind
     ·exact .inl k
    ·rcases R h _ C with k|k
     ·exact .inr ⟨k,e⟩
     ·exact .inl k
   ·obtain⟨y,hy,ey,-⟩:=WZ O
    grind
 refine⟨⟨?_,fun Y M=> ?_,fun Y M=> ?_,fun h c C=>(pr h c C).1⟩,fun h c C=>(pr h c C).2⟩
 ·rw[List.length_zipWith,ZP,A.len,K.len,Nat.min_self]
 ·obtain⟨h,e⟩:=Zv.1 M;obtain⟨Q,X,p,z,F,I,rfl⟩:=split h Y e;exact F.add (eA B n I)
 ·obtain⟨h,e⟩:=Zv.1 M;obtain⟨Q,X,p,z,F,I,rfl⟩:=split h Y e;have k1:W8 (D*E) (x*E) Q:=fun u i=>(A.fr Q (Zh p) u i).scale
  have kc:Fr D x (-(t.1*s.1)):=by
   rw[m1,Rat.mul_one];exact(A.fr J (Zh l) t t1).neg
  have k2:W8 (D*E) (x*S) (XD (-(t.1*s.1)) q X):=fun u i=>by
   obtain⟨y,hy,-,ey⟩:=WZ i;rw[ey];exact kc.mul (hE.2.2 X (Zh z) y hy)
  refine(W8.X8 F.q8 (eA B n I).q8 k1 k2).mono ?_;have h3:x*E<=x*S:=ZE _ hE.2.1
  grind
variable {o:M'}{w:P'}
def comp (v:S')(h:Nat):I':=v[h]?.getD []
def FC (ys:S')(Ls:List S')(h:Nat)(φ:P'->Rat):Rat:=WA ys (Ls.map fun L=>comp L h) φ
theorem fB {v}{h}{Q}(e:v[h]? =some Q):comp v h=Q:=by unfold comp;rw[e];rfl
theorem dt {v}(a:∀Q∈v,Pl Q)(h):Pl (comp v h):=by grind [comp,Pl.nil]
theorem uQ {A B}(a:A.length=B.length)(h):comp (List.zipWith X8 A B) h=X8 (comp A h) (comp B h):=by grind [comp,X5]
theorem comp_map {A}{c}{q}(h):comp (A.map (XD c q)) h=XD c q (comp A h):=by
 unfold comp;rw[ZR];cases A[h]? <;>rfl
theorem Dt {vs d L}{b}{i}{y}(s:b[i]? =some L)(m:d[i]? =some y)(k:vs.length=L.length)(p:∀Q∈vs,Pl Q)(o:∀Q∈L,Pl Q)(r:Pl y){c}{q}(j:c≠0)(l:L8 q)(h)(a:P'->Rat):
  FC (d.set i (X8 y [(c,q)])) b h a+XZ (comp (List.zipWith X8 vs (L.map (XD (-c) q))) h) a=FC d b h a+XZ (comp vs h) a:=by
 have g: -c≠0:=fun e=>j (by grind)
 have e1:=Ql (qs:=d) (q2:=X8 y [(c,q)]) m (fs:=b.map fun L=>comp L h) (f:=comp L h) (by grind) a;have n:Pl [(c,q)]:=O6 j l;rw[VG _ _ _ _ (Zf _) r.q8 n.q8]at e1;rw[uQ (by grind),comp_map,VG _ _ _ _ (Zf _) (dt p h).q8 (Ve g l (dt o h)).q8,Ux]
 grind [XZ,FC]
theorem iO (c)(q):∀A fs (b:P'->Rat),WA (A.map (XD c q)) fs b=c*WA A fs fun k=>b (Xg q k)
 |[],_,b=>by grind [WA]
 |a::A,[],b=>by grind [WA]
 |a::A,f::fs,b=>by
  simp only[Zt,WA];rw[Ux,iO c q A fs b]
  grind [Vj]
theorem CL {vs L fs}(d:vs.length=L.length)(j:∀Q∈vs,Pl Q)(i:∀Q∈L,Pl Q){c}{q}(e:c≠0)(k:L8 q)(f:∀a,WA vs fs a=0)(g:∀a,WA L fs a=0)(a:P'->Rat):WA (List.zipWith X8 vs (L.map (XD c q))) fs a=0:=by
 rw[OT (fun X b=>(j X b).q8) (fun X b=>by
  obtain⟨Y,h,rfl⟩:=ZM.1 b;exact(Ve e k (i Y h)).q8) (by grind),f,iO,g]
 grind
theorem na:∀{qs fs:S'} {φ:P'->Rat},(∀(h:Nat) (Q f:I'),qs[h]? =some Q->fs[h]? =some f->(XZ Q fun m=>XZ f fun k=>φ (Xg m k))=0)->WA qs fs φ=0
 |[],_,_,_=>by simp only[WA]
 |_::_,[],_,_=>by simp only[WA]
 |q::qs,f::fs,φ,H=>by
  have h0:=H 0 q f rfl rfl;have c:=na (qs:=qs) (fs:=fs) (φ:=φ) fun h Q g a b=>H (h+1) Q g (by grind) (by grind)
  grind [WA]
theorem jw {Q f}(g:Pl Q)(h:Pl f){t s}(l:XB o Q=some t)(k:XB o f=some s){u v}(c:u∈Q)(d:v∈f):(u=t/\v=s)\/Wz o (Xg u.2 v.2) (Xg t.2 s.2):=by
 obtain⟨w,p,-,n⟩:=Xy g l;obtain⟨r,i,-,m⟩:=Xy h k;have j:=g.q8 u c;have q:=h.q8 v d;have a:v=s\/Wz o (Xg u.2 v.2) (Xg u.2 s.2):=by
  rcases m v d with e|e
  ·exact .inl e
  ·exact .inr (e.add j q i)
 have b:u=t\/Wz o (Xg u.2 s.2) (Xg t.2 s.2):=by
  rcases n u c with e|e
  ·exact .inl e
  ·have:=e.add i j p
   grind [XL]
 rcases a with rfl|a
 ·grind
 ·rcases b with rfl|b
  ·exact .inr a
  grind [Wz.trans,Wo]
theorem A6 {vs fs:S'}(I:∀Q∈vs,Pl Q)(H:∀f∈fs,Pl f)(z:∀f∈fs,∃r,XB o f=some r){a:Nat}{q f:I'}{t s:Qm}(i:vs[a]? =some q)(F:fs[a]? =some f)(B:XB o q=some t)(A:XB o f=some s)
  (U:∀φ,WA vs fs φ=0) (K:∀h m,h<fs.length->h≠a->(List.zipWith (Us o) vs fs)[h]? =some (some m)->Wz o m (Xg t.2 s.2)):False:=by
 have d:=I q (Zh i);have c:=H f (Zh F);obtain⟨J,R,W,-⟩:=Xy d B;obtain⟨O,P,V,-⟩:=Xy c A;have M:=Wo R P;have e1:=Ql (q2:=[]) i F (WJ (Xg t.2 s.2));have e2:WA (vs.set a []) fs (WJ (Xg t.2 s.2))=0:=na fun h Q g p w=>by
  by_cases y:a=h
  ·subst y;rw[List.getElem?_set_self (getElem?_lt' i)]at p;cases p;rfl
  ·rw[ZY y]at p;have C:=I Q (Zh p);have D:=H g (Zh w);refine SK fun u b=>SK fun v l=> ?_
   obtain⟨r,G⟩:=z g (Zh w);cases E:XB o Q with
   |none=>grind [Vy]
   |some x=>
    have x8:=(Xy C E).2.1;have N:=(Xy D G).2.1;have k:=K h (Xg x.2 r.2) (getElem?_lt' w) (fun e=>y e.symm) (by
     grind [Us])
    have L:Wz o (Xg u.2 v.2) (Xg t.2 s.2):=by
     rcases jw C D E G b l with⟨rfl,rfl⟩|e
     ·exact k
     ·exact Wz.trans (Wo (C.q8 u b) (D.q8 v l)) (Wo x8 N) M e k
    unfold WJ;rw[if_neg L.ne]
 have j:∀u∈q,u=t\/(XZ f fun k=>WJ (Xg t.2 s.2) (Xg u.2 k))=0:=fun u b=>by
  by_cases n:u=t
  ·exact .inl n
  ·refine .inr (SK fun v l=> ?_);rcases jw d c B A b l with⟨e,-⟩|e
   ·exact absurd e n
   ·unfold WJ;rw[if_neg e.ne]
 have S:=aV d J (φ:=fun m=>XZ f fun k=>WJ (Xg t.2 s.2) (Xg m k)) j;have T:(XZ f fun k=>WJ (Xg t.2 s.2) (Xg t.2 k))=1*s.1:=by
  rw[aV c O (φ:=fun k=>WJ (Xg t.2 s.2) (Xg t.2 k)) fun v l=>by
   rcases jw d c B A J l with⟨-,e⟩|e
   ·exact .inl e
   ·right;unfold WJ;rw[if_neg e.ne]]
  grind [WJ]
 grind [XZ]
variable {o:M'}{w:P'}
theorem bQ {V}{a}(h:Sl V (Xf a))(d:0<a.length):V=.Xl (Xf a):=by
 cases b:Xf a with
 |nil=>
  grind [Xt]
 |cons c e=>
  rw[b]at h;rcases h with h|⟨h,-⟩
  ·exact h
  ·cases h
theorem AQ (vs fs)(h:vs.length=fs.length):(List.zipWith (Us o) vs fs).length=fs.length:=by grind
theorem N2 {vs fs:S'}{h:Nat}{m:P'}(e:(List.zipWith (Us o) vs fs)[h]? =some (some m)):∃v f t s,vs[h]? =some v/\fs[h]? =some f/\XB o v=some t/\XB o f=some s/\m=Xg t.2 s.2:=by
 rw[List.getElem?_zipWith]at e
 grind [Us]
theorem pP {fs vs}(c:∀Q∈vs,Pl Q)(b:∀f∈fs,∃r,XB o f=some r/\L8 r.2){h}{m}(s:Pr o fs vs h m):∃d,(List.zipWith (Us o) vs fs)[h]? =some (some d)/\bG o m d/\L8 m/\L8 d:=by
 obtain⟨Q,f,r,u,l,n,p,g,rfl⟩:=s;obtain⟨w,a,e⟩:=b f (Zh n);rw[p]at a;cases a;have i:=c Q (Zh l);cases q:XB o Q with
 |none=>grind [Vy]
 |some t=>
  obtain⟨y,j,x,v⟩:=Xy i q;have k:=i.q8 u g;refine⟨Xg t.2 r.2,?_,?_,Wo k e,Wo j e⟩
  ·grind [Us]
  ·rcases v u g with rfl|h
   ·exact .inl rfl
   ·refine .inr ?_;have:=h.add e k j
    grind [XL]
structure L7 (B:Xq)(o:M')(w:P')(W S:Nat)(lo G:PL)(gs:N')(fs:S')(xss:Z')(Ls:List S')(k C:Nat):Prop where
 hB:q7 B
 o8:Vq o
 ol:o.length<1000000
 w8:w.length=8
 wp:∀x∈w,0<x
 so:SA lo o
 pl:∀f∈fs,Pl f
 fl:∀f∈fs,f.length<=200
 ld1:∀f∈fs,∃r,XB o f=some r/\r.1=1
 n9:fs.length<=900
 hW:W<=65535
 num:(allM w W).length<=300
 sg:Sl G (Xf gs)
 gf:VV gs fs
 xl:XE VV xss Ls
 MK:∀a b,a<b->b<fs.length->∃L,Ls[DO a b fs.length]? =some L/\KB o w fs S a b L
 S1:1<=S
 k7:k<200000000000
 C:C<4294967296^k
theorem L7.ld {B}{W S}{lo G}{gs}{fs}{a}{d}{k C}(X:L7 B o w W S lo G gs fs a d k C):∀f∈fs,∃r,XB o f=some r/\L8 r.2:=fun f b=>by
 obtain⟨r,c,-⟩:=X.ld1 f b;exact⟨r,c,(Xy (X.pl f b) c).2.1⟩
structure CJ (w:P')(W:Nat)(Ls:List S')(D x:Nat)(cs:N')(ys:S'):Prop where
 pq:VV cs ys
 fr:∀Q∈ys,W8 D x Q/\(∀u∈Q,QJ w W u.2)/\Pl Q
 wt:∀(j:Nat) (y:I') (L:S'),ys[j]? =some y->Ls[j]? =some L->∀X∈L,∀u∈y,∀v∈X,QJ w W (Xg u.2 v.2)
theorem kO {B:Xq}{W S:Nat}{lo G:PL}{gs:N'}{fs:S'}{c9:Z'}{Ls:List S'}{k C:Nat}(X:L7 B o w W S lo G gs fs c9 Ls k C){D x:Nat}{V:PL}{lv:N'}{vs:S'}{cs:N'}{ys:S'}(hD:0<D)(d5:D<=x)(hx:x*(212*S)<=C)(sv:Sl V (Xf lv))(pv:VV lv vs)(H:VJ o w W fs D x vs)(hz:∀φ,WA vs fs φ=0)(hc:CJ w W Ls D x cs ys)(l5:cs.length=c9.length):
  ((∀v∈vs,v=[])/\∃i m,m.length=8/\XT B fun E _=>E.pure 60 [.one V,.one G,.one lo]=some (.Wd [.one (.int .i64 i),.one (.int .i64 (.negSucc 0)),.agg (mo m)]))\/
  (∃a m J d e7 a6 N d0 g7,(XT B fun E _=>Kt E G lo gs (gF c9) lv cs V J d e7)/\d0=cs.set J (.Xl d)/\a+1<fs.length/\0<N/\N<=S/\VV e7 a6/\VJ o w W fs (D*N) (x*(212*S)) a6/\(∀φ,WA a6 fs φ=0)/\CJ w W Ls (D*N) (x*(212*S)) d0 g7/\(∀h φ,FC g7 Ls h φ+XZ (comp a6 h) φ=FC ys Ls h φ+XZ (comp vs h) φ)/\QJ w W m/\Pr o fs vs a m/\(∀h M,h<a->Pr o fs vs h M->Wz o M m)/\(∀h M,Pr o fs vs h M->bG o M m)/\∀h M,Pr o fs a6 h M->Wz o M m\/(M=m/\a<h)):=by
 have P:=X.hB.toStd;have o8:=X.o8;have ol:=X.ol;have w8:=X.w8;have wp:=X.wp;have m0:=pv.length;have m4:=H.len;have l7:=X.gf.length;have n9:=X.n9;have l4:=X.hW;have i1:=X.S1;have hM:1<=212*S:=by omega
 have l0:=X.xl.length;have e5:x<=C:=Zy (Z1 _ hM) hx;have i9:1<=x:=by omega
 have m2:212*(x*S)=x*(212*S):=by rw[YD]
 have m3:S<=x*S:=Yz _ i9;have m6:x<=x*S:=Z1 _ i1;have g6:∀Q∈vs,Sz Q/\Q.length<=300:=fun Q hQ=>by
  refine⟨fun u A=>(H.fr Q hQ u A).sq X.k7 hD (by omega) e5 X.C,?_⟩;obtain⟨h,e⟩:=Zv.1 hQ;have Z:h<fs.length:=by grind
  obtain⟨r,hr,r8⟩:=X.ld _ (Ya Z);refine Zy (O7 w8 wp (H.pl Q hQ) fun u A=> ?_) X.num;have u8:=(H.pl Q hQ).q8 u A;obtain⟨k1,k2⟩:=H.wt h _ ⟨Q,_,r,u,e,Zd Z,hr,A,rfl⟩
  grind [Wr]
 have c7:∀f∈fs,f≠[]/\f.length<100000:=fun f hf=>⟨fun e=>(by obtain⟨r,hr,-⟩:=X.ld1 f hf;rw[e]at hr;cases hr),by have:=X.fl f hf;omega⟩
 have pw:∀h m,(List.zipWith (Us o) vs fs)[h]? =some (some m)->QJ w W m:=fun h m e=>by
  obtain⟨v,f,t,s,h1,h2,h3,h4,rfl⟩:=N2 e;exact H.wt h _ ⟨v,f,s,t,h1,h2,h4,(Xy (H.pl v (Zh h1)) h3).1,rfl⟩
 have e8:∀m,some m∈List.zipWith (Us o) vs fs->QJ w W m:=fun m hm=>by
  grind [Zv]
 have ht:=Ad P sv X.sg (by omega) (o9 P X.so o8 ol pv X.gf H.len (fun v hv=>by grind) c7 (fun m hm=>(e8 m hm).ok w8 wp (by omega)) 0 (.negSucc 0) (.negSucc 0) Ut (.inl rfl) (.inl rfl) fun h=>absurd rfl h);have sp:=dU (o:=o) (ps:=List.zipWith (Us o) vs fs) (fun m hm=>(e8 m hm).1) (List.zipWith (Us o) vs fs) 0 (.negSucc 0,.negSucc 0,Ut) rfl (.inl ⟨rfl,rfl,fun h Z=>by omega⟩);have h8:∀st:Int×Int×P',Kl o (List.zipWith (Us o) vs fs) (List.zipWith (Us o) vs fs).length st->st.1≠.negSucc 0->st.2.2.length=8:=fun st h i5=>by
  rcases h with⟨h,-⟩|⟨a,-,-,-,h,-⟩
  ·exact absurd h i5
  ·exact h
 generalize i7:bN o (List.zipWith (Us o) vs fs) 0 (.negSucc 0,.negSucc 0,Ut)=st at ht sp;obtain⟨i,j,m⟩:=st;rcases sp with⟨h1,h2,h3⟩|⟨a,h1,h2,h3,h4,h5,h6,h7⟩
 ·
  left;have i0:i=.negSucc 0:=h1;have b7:j=.negSucc 0:=h2;subst i0 b7;have d8:∀(r:List (Option P')) (k:Nat) (st:Int×Int×P'),(∀p∈r,p=none)->bN o r k st=st:=by
   intro r;induction r with
   |nil=>intro k st _;rfl
   |cons p r ih=>
    intro k st R;have:=R p (Zc ..);subst this;exact ih (k+1) st fun q hq=>R q (Za _ hq)
  have e:=d8 (List.zipWith (Us o) vs fs) 0 (.negSucc 0,.negSucc 0,Ut) fun p R=>by
   grind [Zv]
  rw[i7]at e;cases e;refine⟨fun v hv=> ?_,_,_,rfl,ht.Xk⟩;obtain⟨h,e⟩:=Zv.1 hv;have Z:h<fs.length:=by grind
  have e3:=h3 h (by grind);rw[List.getElem?_zipWith,e,Zd Z]at e3;obtain⟨r,hr,-⟩:=X.ld1 _ (Ya Z);cases hl:XB o v with
  |none=>exact Vy hl
  |some t=>
   grind [Us]
 ·have b7:i=.ofNat a:=h2;subst b7;rcases h7 with h7|⟨b,b1,b2,b3,b4⟩
  ·exfalso;obtain⟨va,f,t,s,g1,g2,g3,g4,g5⟩:=N2 h3;have g5:m=Xg t.2 s.2:=g5;subst g5;exact A6 H.pl X.pl (fun f hf=>by obtain⟨r,hr,-⟩:=X.ld1 f hf;exact⟨r,hr⟩) g1 g2 g3 g4 hz fun h M Z hn hm=>h7.2 h M (by grind) hn hm
  ·right;have g8:j=.ofNat b:=b1;subst g8;rw[AQ vs fs H.len]at b3;obtain⟨va,f,t,s,g1,g2,g3,g4,g5⟩:=N2 h3;obtain⟨vb,g,t',n,l2,a8,l3,a9,d4⟩:=N2 b4;have g5:m=Xg t.2 s.2:=g5;have d4:m=Xg t'.2 n.2:=d4;have b5:QJ w W m:=pw a m h3;obtain⟨L,a5,f0,g0,s0,n0,q1,q2,q3,q4,U⟩:=X.MK a b b2 b3;obtain⟨xs,q5,q6⟩:=X.xl.get _ _ a5;generalize l9:DO a b fs.length=J at q5 a5;rw[g2]at q1;cases q1;rw[a8]at q2;cases q2;rw[g4]at q3;cases q3;rw[a9]at q4;cases q4;have fm:=Zh g2;have gm:=Zh a8;obtain⟨s1,s8,sn,-⟩:=Xy (X.pl f fm) g4;obtain⟨n3,b6,n4,-⟩:=Xy (X.pl g gm) a9;have c8:=Zh g1;obtain⟨t1,t8,tn,-⟩:=Xy (H.pl va c8) g3;have l8:L8 (XM s.2 n.2):=Q9 s8 b6;have m8:=b5.1;have b8:Ww (XM s.2 n.2) m=true:=kY (s8.trans m8.symm) (b6.trans m8.symm) (by grind [XL,TW]) (by grind [XL,TW]);have i8:Wu w (XM s.2 n.2)<=W:=by
    have w2:Wu w (Xg (XO m (XM s.2 n.2)) (XM s.2 n.2))=Wu w (XO m (XM s.2 n.2))+Wu w (XM s.2 n.2):=Wr w ((Va m8 l8).trans l8.symm)
    grind [XL,WD]
   have mm:XA m:=b5.ok w8 wp (by omega);have ml:XA (XM s.2 n.2):=QJ.ok (w:=w) (W:=W) ⟨l8,i8⟩ w8 wp (by omega);have mq:XA (XO m (XM s.2 n.2)):=Tf mm ml;obtain⟨p,R,pp⟩:=X.gf.get g2;obtain⟨q,hq,pq⟩:=X.gf.get a8;obtain⟨r,hr,j5⟩:=pv.get g1;obtain⟨n1,x1,d1,e1,c1,c2,ms⟩:=Od P X.so o8 ol pp (c7 f fm).2 g4;obtain⟨n2,x2,d2,e2,c3,c4,j3⟩:=Od P X.so o8 ol pq (c7 g gm).2 a9;obtain⟨m9,x3,d3,e3,c5,c6,mt⟩:=Od P X.so o8 ol j5 (by grind) g3;have k1:=jA P ms j3;have k2:=O5 P mm ml b8;have m1:s.1=1:=by
    obtain⟨r,hr,r1⟩:=X.ld1 f fm
    grind
   have j6:Sq s.1:=by rw[m1];exact Sq.int (z:=1) (by decide)
   have j7:Sq t.1:=(g6 va c8).1 t t1;obtain⟨c,k3,k4⟩:=OY P c6 c2 j7 j6;obtain⟨y1,y2,y3,y4,rfl⟩:=k4.len;have d9:Xv B 65 [.one (La0 a),.one (La0 b),.one (La0 gs.length)] (.one (La0 J)):=by
    grind [DN]
   have a7:Fr D x (t.1*s.1):=by
    rw[m1,Rat.mul_one];exact H.fr va c8 t t1
   have n5:Sq (t.1*s.1):=a7.sq X.k7 hD (C:=C) (by omega) (by omega) X.C;have cn:t.1*s.1≠0:=T6 tn sn;have pF:PQ (.Xl [.bool y1::y2::.bool y3::y4::mo (XO m (XM s.2 n.2))]) [(t.1*s.1,XO m (XM s.2 n.2))]:=⟨_,.Xl,.cons (Vn.mk k4 mq) .nil⟩;have e9:Sz [(t.1*s.1,XO m (XM s.2 n.2))]:=fun v hv=>by grind
   obtain⟨F',k5,k6⟩:=ez P (lp:=.Xp) (ts:=[]) ⟨[],.nil,.nil⟩ pF Sz.nil e9 (by simp) (by simp);have eN:X8 [] (WE [(t.1*s.1,XO m (XM s.2 n.2))])=[(-(t.1*s.1),XO m (XM s.2 n.2))]:=by
    grind [X5,WE,X2,neg_one_mul]
   rw[eN]at k6;obtain⟨N,b0,a0,d6⟩:=U.fr;have q8:=mq.1;have w2:Wu w (Xg (XO m (XM s.2 n.2)) (XM s.2 n.2))=Wu w (XO m (XM s.2 n.2))+Wu w (XM s.2 n.2):=Wr w (q8.trans l8.symm);rw[XL,WD (l8.trans m8.symm) b8]at w2;have k0:=b5.2;have j0:∀I∈L,∀u∈I,QJ w W (Xg (XO m (XM s.2 n.2)) u.2):=fun I l u A=>by
     obtain⟨h,e⟩:=Zv.1 l;have Z:h<fs.length:=by rw[<-U.len];grind
     obtain⟨r0,i6,r8⟩:=X.ld _ (Ya Z);have u8:=(U.pl I l).q8 u A;obtain⟨⟨-,w1⟩,-⟩:=U.mem h I _ r0 e (Zd Z) i6 u A
     grind [Wr,Wo]
   have e6:∀I∈L,W8 N S I/\Ph I/\(∀u∈I,XA (Xg (XO m (XM s.2 n.2)) u.2))/\I.length<1000/\I.length*(x*S)<=C:=fun I l=>by
    refine⟨d6 I l,(U.pl I l).dc,fun u A=>(j0 I l u A).ok w8 wp (by omega),by have:=U.ln I l;omega,?_⟩;have h1:=Zm (x*S) (U.ln I l);omega
   have mb:xR D N x S C k:=⟨X.k7,hD,b0,by
    have:=ZA d5 a0;omega,by omega,by omega,X.C⟩
   obtain⟨Y,k7,k8⟩:=mY X.hB mb (F:=.Xl F') (t:=(-(t.1*s.1),XO m (XM s.2 n.2))) ⟨_,.Xl,k6⟩ a7.neg (fun e=>cn (by grind)) q6 e6;have l1:=q6.length;have d7:=U.len;have k9:=sb P (F:=.Xl F') (V:=.Xl (Xf xs)) .Xl (by omega) k7;have ST:=BL H X.ld b2 b3 g1 g2 a8 g3 g4 a9 s8 b6 sn g5 b8 (fun h M Z R=>by
    obtain⟨m1,e1,e2,e3,e4⟩:=pP H.pl X.ld R
    grind [bG.lt]) (fun h M R=>by
    obtain⟨m1,e1,e2,e3,e4⟩:=pP H.pl X.ld R
    grind [bG.trans]) m1 U ⟨b0,a0,d6⟩
   have j8:∀Q∈L.map (XD (-(t.1*s.1)) (XO m (XM s.2 n.2))),Sz Q/\Q.length<400000:=fun Q hQ=>by
    obtain⟨I,l,rfl⟩:=ZM.1 hQ;obtain⟨a1,-,-,a4,-⟩:=e6 I l;refine⟨fun u A=> ?_,by grind [XD]⟩;obtain⟨v,hv,-,ev⟩:=WZ A;rw[ev];have:=ZA d5 a0;exact(a7.neg.mul (a1 v hv)).sq X.k7 (ZV hD b0) (C:=C) (by omega) (by omega) X.C
   obtain⟨os,w1,w2⟩:=dF P pv k8 (by grind) (fun Q hQ=>⟨(g6 Q hQ).1,by grind⟩) j8;have i2:V=.Xl (Xf lv):=bQ sv (by omega);have w3:=jz P (O:=.Xl (Xf [.Xl (Xf Y)])) (vs:=lv) (os:=[.Xl (Xf Y)]) (out:=os) .Xl (by have:=H.len;omega) (by simp) (w1.mono fun E K e1=>.cons .Xl e1 (.nil _));rw[<-i2]at w3;have i4:J<cs.length:=by
    grind
   have l6:=Zd i4;have m7:=hc.pq.length;obtain⟨c0,i3,j4⟩:=hc.pq.get (f:=ys[J]'(by omega)) (Zd (by omega));obtain⟨y0,j9,T⟩:=hc.fr (ys[J]'(by omega)) (Ya _);have n6:(ys[J]'(by omega)).length<=300:=Zy (O7 w8 wp T j9) X.num;obtain⟨d,j1,j2⟩:=eC P j4 pF (fun u A=>(y0 u A).sq X.k7 hD (by omega) e5 X.C) e9 (by omega) (by simp);refine⟨a,m,J,d,os,_,N,_,ys.set J (X8 (ys[J]'(by omega)) [(t.1*s.1,XO m (XM s.2 n.2))]),?_,rfl,by omega,b0,a0,w2,ST.1,?_,?_,?_,b5,⟨va,f,s,t,g1,g2,g4,t1,g5⟩,fun h M Z R=> ?_,fun h M R=> ?_,ST.2⟩
   ·refine(ht.Xk.and (c1.Xk.and (c3.Xk.and (c5.Xk.and (k1.Xk.and (k2.Xk.and (k3.Xk.and (d9.Xk.and (k5.Xk.and (k9.Xk.and (j1.Xk.and w3.Xk))))))))))).mono fun E K ⟨f1,f2,f3,f4,f5,f6,f7,f8,f9,g9,h0,h9⟩=>⟨_,_,_,_,_,_,_,_,_,_,_,_,_,_,_,_,_,_,_,_,_,_,_,_,_,_,_,_,_,_,_,true,m8,s8,b6,t8,l8,mq.1,R,hq,hr,?_,i3,f1,f2,f3,f4,f5,f6,f7,f8,f9,g9,h0,h9⟩
    grind
   ·exact CL (by rw[d7];exact H.len) H.pl U.pl (fun e=>cn (by grind)) mq.1 hz U.z
   ·have b9:Q8 [(t.1*s.1,XO m (XM s.2 n.2))]:=fun u A=>by grind
    have m5:x*N<=x*S:=ZE _ a0;refine⟨hc.pq.set ⟨d,.Xl,j2⟩ J,fun Q hQ=> ?_,fun j y L0 ej eL I l u A v hv=> ?_⟩
    ·rcases List.mem_or_eq_of_mem_set hQ with h|rfl
     ·obtain⟨a1,a2,a3⟩:=hc.fr Q h;exact⟨fun u A=>((a1 u A).scale (E:=N)).mono (by omega),a2,a3⟩
     ·refine⟨?_,fun u A=> ?_,T.add (O6 cn mq.1)⟩
      ·have b1:W8 (D*N) (x*N) (ys[J]'(by omega)):=fun u A=>(y0 u A).scale
       have b2:W8 (D*N) (x*N) [(t.1*s.1,XO m (XM s.2 n.2))]:=fun u A=>by rw[Yj.1 A];exact a7.scale
       exact(W8.X8 T.q8 b9 b1 b2).mono (by omega)
      ·rcases WC _ (Zf _) T.q8 b9 A with⟨v,hv,e⟩|⟨v,hv,e⟩
       ·grind
       grind
    ·by_cases hj:J=j
     ·subst hj;rw[a5]at eL;cases eL;rw[List.getElem?_set_self (by omega)]at ej;cases ej;rcases WC _ (Zf _) T.q8 b9 A with⟨u',e0,e⟩|⟨u',e0,e⟩
      ·rw[<-e];exact hc.wt J _ _ (Zd (by omega)) a5 I l u' e0 v hv
      grind
     ·rw[ZY hj]at ej;exact hc.wt j y L0 ej eL I l u A v hv
   ·exact fun h φ=>Dt a5 (Zd (by omega)) (by rw[d7];exact H.len) H.pl U.pl T cn mq.1 h φ
   ·obtain⟨m1,e1,e2,e3,e4⟩:=pP H.pl X.ld R
    grind [bG.lt]
   ·obtain⟨m1,e1,e2,e3,e4⟩:=pP H.pl X.ld R
    grind [bG.trans]
variable {o:M'}{w:P'}
theorem wK {M x a b C}(c:1<=M)(h:x*M^a<=C)(k:b<=a):x*M^b<=C:=Zy (ZE _ (Z5 c k)) h
structure KL (B:Xq)(w:P')(W:Nat)(lo G:PL)(gs:N')(xss:Z')(Ls:List S')(C:Nat)(V:PL)(lv:N')(vs:S')(cs:N')(ys:S')(cs':N')(ys':S'):Prop where
 run:∃r,XT B fun E _=>vw E G lo gs (gF xss) r V lv cs cs'
 cj:∃D x,0<D/\D<=x/\x<=C/\CJ w W Ls D x cs' ys'
 rel:∀h φ,FC ys' Ls h φ=FC ys Ls h φ+XZ (comp vs h) φ
theorem oC {vs}(h0:∀v∈vs,v=[])(h)(a:P'->Rat):XZ (comp vs h) a=0:=by
 cases e:vs[h]? with
 |none=>unfold comp;rw[e];rfl
 |some Q=>rw[fB e,h0 Q (Zh e)];rfl
theorem KL.end_ {B}{lo G}{gs}{c}{f}{C D x W}{V}{l}{vs}{a}{d}(g:0<D)(b:D<=x)(k:x<=C)(j:CJ w W f D x a d)(h0:∀v∈vs,v=[]){i}{m}(n:m.length=8)(h:XT B fun E _=>E.pure 60 [.one V,.one G,.one lo]=some (.Wd [.one (.int .i64 i),.one (.int .i64 (.negSucc 0)),.agg (mo m)])):KL B w W lo G gs c f C V l vs a d a d:=
 ⟨⟨0,h.mono fun E K e=>.done n e⟩,⟨D,x,g,b,k,j⟩,fun h o=>by rw[oC h0];grind⟩
theorem uI {B}{W S}{lo G}{gs}{fs}{s}{T}{k C}(X:L7 B o w W S lo G gs fs s T k C):∀l,F7 o w W l->
  ∀{D x} {V} {y} {vs} {p} {A},0<D->D<=x->x*(212*S)^(l.length*fs.length+1)<=C->Sl V (Xf y)->VV y vs->VJ o w W fs D x vs->(∀φ,WA vs fs φ=0)->CJ w W T D x p A->p.length=s.length->(∀h m,Pr o fs vs h m->m∈l)->
  ∃t H,KL B w W lo G gs s T C V y vs p A t H
 |[],_,D,x,V,y,vs,p,A,v,c,Y,J,O,L,N,I,g,P=>by
  have a2:=X.S1;have U:1<=212*S:=by omega
  have j:=wK U Y (b:=1) (by omega);rw[Nat.pow_one]at j;rcases kO X v c j J O L N I g with⟨h0,i,m,m8,h⟩|⟨a,m,_,_,_,_,_,_,_,_,_,_,_,_,_,_,_,_,_,_,h,_⟩
  ·exact⟨p,A,KL.end_ v c (Zy (Z1 _ U) j) I h0 m8 h⟩
  ·cases P a m h
 |δ::l,hl,D,x,V,y,vs,p,A,v,c,Y,J,O,L,N,I,g,P=>by
  have a2:=X.S1;have U:1<=212*S:=by omega
  have ih:=@uI B W S lo G gs fs s T k C X l hl.tail;have Z:∀n∈l,Wz o n δ:=(Zu.1 hl.dc).1;have key:∀(d i0:Nat),fs.length<=i0+d->∀{D x:Nat} {V:PL} {y:N'} {vs:S'} {p:N'} {A:S'},0<D->D<=x->x*(212*S)^(l.length*fs.length+d+1)<=C->Sl V (Xf y)->VV y vs->VJ o w W fs D x vs->(∀φ,WA vs fs φ=0)->CJ w W T D x p A->p.length=s.length->(∀h m,Pr o fs vs h m->m∈δ::l)->(∀h m,h<i0->Pr o fs vs h m->m∈l)->
    ∃t H,KL B w W lo G gs s T C V y vs p A t H:=by
   intro d;induction d with
   |zero=>
    intro i0 hi D x V y vs p A v c Y J O L N I g P R;exact ih v c Y J O L N I g fun h m hm=>R h m (by
     obtain⟨Q,f,r,u,h1,h2,-⟩:=hm
     grind) hm
   |succ d a6=>
    intro i0 hi D x V y vs p A v c hy J O L N I g P R;have j:=wK U hy (b:=1) (by omega);rw[Nat.pow_one]at j;rcases kO X v c j J O L N I g with⟨h0,i,m,m8,h⟩|⟨a,m,kk,dd,a7,a8,E',a9,b3,h1,rfl,h2,h3,h4,h5,h6,a5,h7,hr,h8,h9,b0,a1,b1⟩
    ·exact⟨p,A,KL.end_ v c (Zy (Z1 _ U) j) I h0 m8 h⟩
    ·by_cases hm:m=δ
     ·subst hm;have b2:i0<=a:=Nat.le_of_not_lt fun h=>Wz.vD (Z m (R a m h h9))
      have inl:∀h z,Pr o fs a8 h z->Wz o z m->z∈l:=fun h z q M=>(Zk.1 (hl.cl m (Zc ..) z (h6.wt h z q) M)).resolve_left M.ne
      obtain⟨t,H,F⟩:=a6 (a+1) (by omega) (ZV v h3) (by
       have hq:=ZA c h4
       grind) (by
       grind) (V:=.Xl (Xf a7)) .Xl h5 h6 a5 h7 (by grind) (fun h z q=>by
       grind) (fun h z hh q=>by
       grind)
      obtain⟨r,f1⟩:=F.run;exact⟨t,H,⟨r+1,(h1.and f1).mono fun E K ⟨e1,e2⟩=>.step J e1 e2⟩,F.cj,fun h φ=>by rw[F.rel,hr]⟩
     ·have a4:m∈l:=(Zk.1 (P a m h9)).resolve_left hm;exact ih v c (wK U hy (by omega)) J O L N I g fun h z q=>by
       rcases Zk.1 (P h z q)with e|e
       ·exfalso;have a3:=Z m a4;rcases a1 h z q with k|k
        ·grind
        ·rw[e]at k;exact(k.asymm (hl.wY δ (Zc ..)).1 h8.1) a3
       ·exact e
  have a0:(δ::l).length*fs.length=l.length*fs.length+fs.length:=by grind
  rw[a0]at Y;exact key fs.length 0 (by omega) v c Y J O L N I g P fun h m hh=>by omega
theorem CJ.zero (n){W}{a}{D x}:CJ w W a D x (List.replicate n .Xp) (List.replicate n []):=⟨OX n,fun Q b=>by
 rw[(Yt.1 b).2];exact⟨(fun _ h=>by cases h),(fun _ h=>by cases h),Pl.nil⟩,fun j y L c _ X _ u d=>by
 grind⟩
theorem FB (n)(a)(h)(b:P'->Rat):FC (List.replicate n []) a h b=0:=Qn _ _ _
