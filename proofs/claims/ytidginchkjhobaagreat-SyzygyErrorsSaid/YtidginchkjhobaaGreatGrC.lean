/- S-polynomials of divisors, what IsBasis answers: plain facts. -/
import Derived.Test.YtidginchkjhobaaGreatMade
namespace Go.Proofs.YtidginchkjhobaaGreat
open Go.Ev Go.Num
theorem SM {z:Rat}(b:z≠0){m:List Nat}(a:L8 m){f:List Qm}(h:Pl f):Pl (XS z m f):=⟨cr b a h.q8 h.dc,Sg a h.q8⟩
theorem vL {f:List Qm}(h:Q8 f):U3 f=XS (-1) zM f:=by
 unfold U3 Uc XS;exact List.map_congr_left fun t a=>by rw[cy (h t a)]
theorem R7 {f:List Qm}(h:Pl f):Pl (U3 f):=by
 rw[vL h.q8];exact SM (by decide) rfl h
variable {o:List (List Int)}{w:List Nat}{a:Nat}{fs:List (List Qm)}{d e:Dv}
abbrev R8 (d e:Dv):List Nat:=XD d.1.2 e.1.2
theorem QM.s8 (h:QM o w a fs d):L8 d.1.2:=(XW h.pl h.ld).2.1
theorem QM.s0 (h:QM o w a fs d):d.1.1≠0:=(XW h.pl h.ld).2.2.1
theorem PZ {x:Rat}(h:x≠0):x⁻¹≠0:=fun k=>h (by rw[<-Rat.inv_inv x,k];exact Rat.inv_zero)
theorem oz (h:QM o w a fs d)(k:QM o w a fs e):L8 (R8 d e):=No h.s8 k.s8
theorem kB (b:List Nat->Rat)(h:QM o w a fs d)(k:QM o w a fs e):Wc (kC d e) b=d.1.1⁻¹*(Wc d.2.1 fun n=>b (Xg (X6 (R8 d e) d.1.2) n))-e.1.1⁻¹*Wc e.2.1 fun n=>b (Xg (X6 (R8 d e) e.1.2) n):=by
 have c:=Vs (oz h k) h.s8;have f:=Vs (oz h k) k.s8;have g:=Sg (z:=d.1.1⁻¹) c h.pl.q8;have i:=R7 (SM (PZ k.s0) f k.pl);show Wc (WB (XS d.1.1⁻¹ (X6 (R8 d e) d.1.2) d.2.1) (U3 (XS e.1.1⁻¹ (X6 (R8 d e) e.1.2) e.2.1))) b=_;rw[Sy b _ _ _ (Zh _) g i.q8,dT];rw[Ro,Ro];grind
theorem PB (h:QM o w a fs d)(k:QM o w a fs e):Pl (kC d e):=
 (SM (PZ h.s0) (Vs (oz h k) h.s8) h.pl).add (R7 (SM (PZ k.s0) (Vs (oz h k) k.s8) k.pl))
theorem dY (h:QM o w a fs d)(k:QM o w a fs e):Xg (X6 (R8 d e) d.1.2) d.1.2=R8 d e:=by
 rw[XP];exact Un (h.s8.trans (oz h k).symm) (TD _ _ (h.s8.trans k.s8.symm))
theorem dX (h:QM o w a fs d)(k:QM o w a fs e):Xg (X6 (R8 d e) e.1.2) e.1.2=R8 d e:=by
 rw[XP];exact Un (k.s8.trans (oz h k).symm) (Sr _ _ (h.s8.trans k.s8.symm))
theorem dR (h:QM o w a fs d){m L:List Nat}(c:L8 m)(f:Xg m d.1.2=L):∀u∈d.2.1,OV w (WT w L) (Xg m u.2)/\aQ o (Xg m u.2) L:=fun u e=>by
 have b:=h.pl.q8 u e;refine⟨⟨VU c b,?_⟩,?_⟩
 ·rw[Vn w (c.trans b.symm),<-f,Vn w (c.trans h.s8.symm)];have:=h.wl u e;omega
 ·rw[<-f];exact(aq h.pl h.ld u e).add c b h.s8
theorem nI (h:QM o w a fs d){m L:List Nat}(f:L8 m)(b:Xg m d.1.2=L):(Wc d.2.1 fun n=>V2 L (Xg m n))=d.1.1:=by
 obtain⟨g,i,k,j⟩:=XW h.pl h.ld;rw[yz h.pl g (φ:=fun n=>V2 L (Xg m n)) fun u c=> ?_]
 ·show V2 L (Xg m d.1.2)*d.1.1=_;unfold V2;rw[if_pos b];grind
 ·rcases j u c with e|e
  ·exact .inl e
  ·right;have:=e.add f (h.pl.q8 u c) i;rw[b]at this;show V2 L (Xg m u.2)=0;unfold V2;rw[if_neg this.ne]
theorem dP (h:QM o w a fs d)(k:QM o w a fs e):∀x∈kC d e,OV w (WT w (R8 d e)) x.2/\WE o x.2 (R8 d e):=by
 intro x i;have j:=Vs (oz h k) h.s8;have l:=Vs (oz h k) k.s8;have n:=PB h k;have b:OV w (WT w (R8 d e)) x.2/\aQ o x.2 (R8 d e):=by
  rcases Um _ (Zh _) (Sg j h.pl.q8) (R7 (SM (PZ k.s0) l k.pl)).q8 i with⟨y,c,e⟩|⟨y,c,e⟩
  ·unfold XS at c;obtain⟨u,g,rfl⟩:=ZQ.1 c;rw[<-e];exact dR h j (dY h k) u g
  ·unfold U3 Uc at c;obtain⟨p,f,rfl⟩:=ZQ.1 c;unfold XS at f;obtain⟨u,g,rfl⟩:=ZQ.1 f;rw[<-e];exact dR k l (dX h k) u g
 refine⟨b.1,b.2.resolve_left fun e=> ?_⟩;have m:=n.O1.Pf x i;rw[Ve,e,kB _ h k,nI h j (dY h k),nI k l (dX h k),Rat.inv_mul_cancel _ h.s0,Rat.inv_mul_cancel _ k.s0]at m;exact n.dc.nz x i (by rw[<-m];grind)
theorem bK (h:QM o w a fs d):∃E:Nat,0<E/\E<=a/\∀u∈d.2.1,∃z:Int,d.1.1⁻¹*u.1*(E:Rat)=(z:Rat)/\z.natAbs<=a:=by
 obtain⟨r,A,m,B⟩:=XW h.pl h.ld;obtain⟨q,v,x,l⟩:=h.cd;obtain⟨j,b,k⟩:=l d.1 r;have i:(q:Rat)≠0:=by
  intro h;have :q=0:=by exact_mod_cast h
  omega
 have c:j≠0:=by
  intro h;rw[h]at b;have :d.1.1*(q:Rat)=0:=b;exact(Rat.mul_eq_zero.1 this).elim m i
 obtain⟨e,f,g⟩:=eW j c;refine⟨j.natAbs,Int.natAbs_pos.2 c,k,fun u p=> ?_⟩;obtain⟨y,s,t⟩:=l u p;refine⟨e*y,?_,by rw[Yf,g,ZZ];exact t⟩;rw[f,Yg,Yg,<-b,<-s];have n:d.1.1⁻¹*d.1.1=1:=Rat.inv_mul_cancel _ m;have :d.1.1⁻¹*u.1*((e:Rat)*(d.1.1*(q:Rat)))=(d.1.1⁻¹*d.1.1)*((e:Rat)*(u.1*(q:Rat))):=by grind
 rw[this,n,Rat.one_mul]
theorem nJ {q:List Qm}(b:Nz q){m n:List Nat}(a:L8 m):Wc q (fun k=>V2 n (Xg m k))=0\/∃u∈q,Wc q (fun k=>V2 n (Xg m k))=u.1:=by
 have e:Wc q (fun k=>V2 n (Xg m k))=Wc q (fun k=>V2 n (Xg k m)):=U2 fun u _=>by rw[XP]
 rw[e];rcases kW b (m:=m) (n:=n) a with h|⟨u,hu,-,h⟩
 ·exact .inl h
 ·exact .inr ⟨u,hu,h⟩
theorem qw (h:QM o w a fs d)(k:QM o w a fs e):Cf (2*a*a) (kC d e):=by
 have r:=Vs (oz h k) h.s8;have s:=Vs (oz h k) k.s8;obtain⟨E,e1,e2,i⟩:=bK h;obtain⟨F,j,f,l⟩:=bK k;have p:E*F<=a*a:=ZU e2 f;refine⟨E*F,Yn e1 j,by rw[Yi];omega,fun x q=> ?_⟩;have g:=(PB h k).O1.Pf x q;rw[Ve,kB _ h k]at g;have t:∃z:Int,d.1.1⁻¹*(Wc d.2.1 fun n=>V2 x.2 (Xg (X6 (R8 d e) d.1.2) n))*((E*F:Nat):Rat)=(z:Rat)/\z.natAbs<=a*a:=by
  rcases nJ h.pl.O1 (m:=X6 (R8 d e) d.1.2) (n:=x.2) r with e|⟨u,hu,e⟩
  ·exact⟨0,by rw[e,Rat.mul_zero,Rat.zero_mul];rfl,Zt _⟩
  ·obtain⟨z,b,c⟩:=i u hu;refine⟨z*F,by rw[e,Y9,<-Rat.mul_assoc,b,Yg,YS],?_⟩;rw[Yf,Z3];exact ZU c f
 have v:∃z:Int,e.1.1⁻¹*(Wc e.2.1 fun n=>V2 x.2 (Xg (X6 (R8 d e) e.1.2) n))*((E*F:Nat):Rat)=(z:Rat)/\z.natAbs<=a*a:=by
  rcases nJ k.pl.O1 (m:=X6 (R8 d e) e.1.2) (n:=x.2) s with e|⟨u,hu,e⟩
  ·exact⟨0,by rw[e,Rat.mul_zero,Rat.zero_mul];rfl,Zt _⟩
  ·obtain⟨z,b,c⟩:=l u hu;refine⟨z*E,by rw[e,ZH,Y9,<-Rat.mul_assoc,b,Yg,YS],?_⟩;rw[Yf,Z3];exact ZU c e2
 obtain⟨z,b,c⟩:=t;obtain⟨y,A,B⟩:=v;refine⟨z-y,?_,?_⟩
 ·rw[<-g,Rat.intCast_sub,<-b,<-A];grind
 ·rw[Yi];omega
theorem qv {k:Nat}(l:k<10000000)(n:a<4294967296^k)(i:w.length=8)(r:∀x∈w,0<x)(j:WT w (R8 d e)<=65535)(h:QM o w a fs d)(g:QM o w a fs e):wU d e:=by
 have v:=Vs (oz h g) h.s8;have A:=Vs (oz h g) g.s8;have b:∀{d:Dv},QM o w a fs d->∀u∈d.2.1,Sq u.1:=fun{d} h u c=>by
  obtain⟨q,B,C,D⟩:=h.cd;obtain⟨y,H,I⟩:=D u c;exact Sq.le l B H C I n
 have f:∀{d:Dv} (m:List Nat),QM o w a fs d->Sz (XS d.1.1⁻¹ m d.2.1):=fun{d} m h t p=>by
  unfold XS at p;obtain⟨u,c,rfl⟩:=ZQ.1 p;obtain⟨E,e1,e2,s⟩:=bK h;obtain⟨z,J,K⟩:=s u c;exact Sq.le l e1 J e2 K n
 have F:=(XW h.pl h.ld).1;have G:=(XW g.pl g.ld).1;exact⟨b h _ F,h.s0,b g _ G,g.s0,b h,b g,fun u c=>(dR h v (dY h g) u c).1.ok i r j,fun u c=>(dR g A (dX h g) u c).1.ok i r j,f _ h,f _ g,by have:=h.len;omega,by have:=g.len;omega⟩
def Az (o:List (List Int))(w:List Nat)(d e:Dv):List (List Nat):=(SK o (allM w (WT w (R8 d e)))).filter fun n=>decide (WE o n (R8 d e))
theorem yV (k:w.length=8)(l:∀x∈w,0<x)(h:QM o w a fs d)(g:QM o w a fs e):AG o w (WT w (R8 d e)) (Az o w d e):=by
 have f:∀n∈allM w (WT w (R8 d e)),OV w (WT w (R8 d e)) n:=fun n c=>by
  obtain⟨a,b⟩:=Ol c l;exact⟨a.trans k,b⟩
 refine⟨(NS fun n c=>(f n c).1).sublist List.filter_sublist,fun n c=>f n (WZ.1 (YD.1 c).1),fun p j n c i=> ?_⟩;obtain⟨m,x2⟩:=YD.1 j;refine YD.2 ⟨WZ.2 (SP (k.trans c.1.symm) l c.2),?_⟩;exact decide_eq_true (i.trans c.1 (f p (WZ.1 m)).1 (oz h g) (of_decide_eq_true x2))
theorem lE (c:w.length=8)(f:∀x∈w,0<x){n:List Nat}(b:OV w (WT w (R8 d e)) n)(a:WE o n (R8 d e)):n∈Az o w d e:=
 YD.2 ⟨WZ.2 (SP (c.trans b.1.symm) f b.2),decide_eq_true a⟩
theorem ao {n:List Nat}(c:w.length=8)(f:∀x∈w,0<x)(h:n∈Az o w d e):OV w (WT w (R8 d e)) n/\WE o n (R8 d e):=by
 obtain⟨g,x2⟩:=YD.1 h;obtain⟨a,b⟩:=Ol (WZ.1 g) f;exact⟨⟨a.trans c,b⟩,of_decide_eq_true x2⟩
theorem tM:(Az o w d e).length<=nV w (WT w (R8 d e)):=
 Zy (List.length_filter_le ..) (Zy (Qe _) (pO ..))
theorem sO (h:QM o w a fs d)(g:QM o w a fs e){P:List Nat->Prop}(f:P (R8 d e)):Sx o fs P fun b=>Wc (kC d e) b:=by
 have i:=Vs (oz h g) h.s8;have j:=Vs (oz h g) g.s8;have k:Sx o fs P _:=Sx.add (c:=d.1.1⁻¹) (P:=P) (v:=fun b=>d.1.1⁻¹*Wc d.2.1 fun n=>b (Xg (X6 (R8 d e) d.1.2) n)) (w:=fun _=>0) h.mem h.ld i (by rw[dY h g];exact f) (.zero fun _=>rfl) fun b=>by grind
 refine Sx.add (c:= -e.1.1⁻¹) g.mem g.ld j (by rw[dX h g];exact f) k fun b=> ?_
 rw[kB _ h g];grind
theorem ja (j:w.length=8)(m:∀x∈w,0<x)(h:QM o w a fs d)(g:QM o w a fs e)(l:Sx o fs (fun n=>n∈Az o w d e) fun b=>Wc (kC d e) b):SB o w fs d.2.1 e.2.1 d.1 e.1:=by
 unfold SB;refine((l.mono fun n k=> ?_).smul (d.1.1*e.1.1)).congr fun b=> ?_
 ·obtain⟨c,x2⟩:=ao j m k;exact⟨c.1,c.2,x2⟩
 ·rw[kB _ h g];have f:d.1.1*d.1.1⁻¹=1:=Rat.mul_inv_cancel _ h.s0;have i:e.1.1*e.1.1⁻¹=1:=Rat.mul_inv_cancel _ g.s0;generalize (Wc d.2.1 fun n=>b (Xg (X6 (XD d.1.2 e.1.2) d.1.2) n))=X;generalize (Wc e.2.1 fun n=>b (Xg (X6 (XD d.1.2 e.1.2) e.1.2) n))=Y;have :d.1.1*e.1.1*(d.1.1⁻¹*X-e.1.1⁻¹*Y)=(d.1.1*d.1.1⁻¹)*(e.1.1*X)-(e.1.1*e.1.1⁻¹)*(d.1.1*Y):=by grind
  rw[this,f,i];grind
theorem il (h:QM o w a fs d)(g:QM o w a fs e)(c:P2 d.1.2 e.1.2=Tp):SB o w fs d.2.1 e.2.1 d.1 e.1:=
 SB.coprime h.mem g.mem h.ld g.ld h.perm g.perm h.po g.po h.wl g.wl fun x b=>by
  rw[c]at b;simp only[Zj,Z0,or_false]at b;omega
end Go.Proofs.YtidginchkjhobaaGreat
namespace Go.Proofs.YtidginchkjhobaaGreat
open Go.Ev Go.Num
structure On (o:List (List Int))(w:List Nat)(fs:List (List Qm)):Prop where
 o8:V3 o
 ol:o.length<1000000
 w8:w.length=8
 wp:∀a∈w,0<a
 ok:∀f∈fs,∀u∈f,∀s∈f,WE o u.2 s.2->WT w u.2<=WT w s.2
 le:∀d m,sw d m->WT w m<=16*d
 num:nV w 96<=17000
variable {o:List (List Int)}{w:List Nat}
theorem gB {c:Nat}(m:1<=c){fs:List (List Qm)}(W:On o w fs){f:List Qm}(k:f∈fs){d n:Nat}(t:n<50000)(g:Sa d c n f){s:Qm}{l:List Qm}(e:Vu o f=s::l)(i:Nat):QM o w c fs (s,f,l,i):=by
 have j:=Vh o f;rw[e]at j;have a:=Rs (o:=o) g.pl.O1;rw[e]at a;have p:s∈f:=j.mem_iff.1 (Ze ..);refine⟨k,g.pl,OH g.pl e,a,j,⟨1,by omega,m,fun u b=> ?_⟩,fun u b=> ?_,by have:=g.len;show f.length<50000;omega⟩
 ·obtain⟨z,q,r⟩:=g.cf u b;exact⟨z,by rw[q];exact Rat.mul_one _,r⟩
 ·rcases aq g.pl (OH g.pl e) u b with h|h
  ·show WT w u.2<=WT w s.2;rw[h];exact Zh _
  ·exact W.ok f k u b s p h
theorem gA {c n:Nat}(j:1<=c)(k:n<50000){fs:List (List Qm)}(W:On o w fs):∀(l:List (List Qm)) (i:Nat),(∀f∈l,f∈fs/\Sa 3 c n f)->∀d∈Ws o l i,QM o w c fs d/\d.2.1∈l
 |[],_,_,d,hd=>by cases hd
 |f::l,i,h,d,hd=>by
  obtain⟨p,q⟩:=h f (Ze ..);have m:=gA j k W l (i+1) fun g r=>h g (Zc _ r)
  unfold Ws at hd;split at hd
  ·obtain⟨a,b⟩:=m d hd;exact⟨a,Zc _ b⟩
  ·rename_i t s e;rcases Zj.1 hd with rfl|hd
   ·exact⟨gB j W p k q e i,Ze ..⟩
   ·obtain⟨a,b⟩:=m d hd;exact⟨a,Zc _ b⟩
theorem On.cx {c n k:Nat}(b:1<=c)(j:n<50000)(i:k<10000000){fs:List (List Qm)}(W:On o w fs){V:Nat}(e:V<=65535)(h:∀f∈fs,Sa 3 c n f):Cx o w V c k fs (Ws o fs 0):=
 ⟨W.w8,W.wp,e,fun d g=>(gA b j W fs 0 (fun f a=>⟨a,h f a⟩) d g).1,b,i,fun f a=>(h f a).pl⟩
theorem NI:∀(w s t:List Nat),WT w (XD s t)<=WT w s+WT w t
 |[],_,_=>by simp[WT]
 |_::_,[],_=>by simp[WT,XD]
 |_::_,_::_,[]=>by simp[WT,XD]
 |a::w,x::s,y::t=>by
  have b:=NI w s t;unfold XD at b⊢;simp only[Zw,WT];have c:a*max x y<=a*x+a*y:=by
   rw[<-Nat.mul_add];exact Z9 _ (by omega)
  omega
theorem Qz {f:List Qm}(h:Pl f):T5 f:=h.O1.nd
end Go.Proofs.YtidginchkjhobaaGreat
namespace Go.Proofs.YtidginchkjhobaaGreat
open Go.Ev Go.Num
def Eu:List Nat:=[16,16,16,1000,1000,1000,1000,1000]
abbrev K1:Nat:=6400
theorem sR {a n:Nat}(c:a<=2048)(k:n<=17000):2*a*a*(2*a)^n*a<4294967296^K1:=by
 have f:(2*a)^n<=4096^n:=Nat.pow_le_pow_left (by omega) n;have g:(4096:Nat)^n=2^(12*n):=by rw[show(4096:Nat)=2^12 from rfl,<-Nat.pow_mul]
 have h:(4294967296:Nat)^K1=2^(32*K1):=by rw[show(4294967296:Nat)=2^32 from rfl,<-Nat.pow_mul]
 have i:2*a*a*(2*a)^n*a=2*a*a*a*(2*a)^n:=YX ..;have d:2*a*a*a<=2*2048*2048*2048:=ZU (ZU (Z9 2 c) c) c;have b:2*2048*2048*2048=2^34:=by decide
 rw[b]at d;have e:=ZU d f;rw[g,<-Y2]at e;have j:(2:Nat)^(34+12*n)<2^(32*K1):=Y5 (by decide) (by unfold K1;omega);rw[h,i];exact Z6 e j
variable {o:List (List Int)}{w:List Nat}
def D9 (o:List (List Int))(w:List Nat)(fs:List (List Qm)):Prop:=∀V,FD o w V fs
theorem OM:∀(l:List (List Qm)) (i:Nat),(∀f∈l,Pl f)->∀f∈l,∀s,XU o f=some s->∃d∈Ws o l i,d.1=s/\d.2.1=f
 |[],_,_,f,a,_,_=>by cases a
 |g::l,i,hp,f,a,s,hs=>by
  have b:=OM l (i+1) fun f a=>hp f (Zc _ a)
  unfold Ws;split
  ·rename_i e;rcases Zj.1 a with rfl|a
   ·have :f=[]:=by
     have h:=Sc o f;rw[e]at h;exact Yq h.symm
    subst this;cases hs
   ·exact b f a s hs
  ·rename_i t k e;rcases Zj.1 a with rfl|a
   ·have:=OH (hp f (Ze ..)) e;rw[hs]at this;cases this;exact⟨_,Ze ..,rfl,rfl⟩
   ·obtain⟨d,c,j⟩:=b f a s hs;exact⟨d,Zc _ c,j⟩
theorem Ca {fs:List (List Qm)}(W:On o w fs){a n:Nat}(b:1<=a)(O:a<=2048)(x:n<50000)(z:∀f∈fs,Sa 3 a n f){i j:Nat}{d e:Dv}(I:(Ws o fs 0)[i]? =some d)(J:(Ws o fs 0)[j]? =some e)(A:P2 d.1.2 e.1.2≠Tp){N:List (Nat×Nat)}{r:Bool}(h:cA o (Ws o fs 0) N r):
  (cA o (Ws o fs 0) ((i,j)::N) r/\SB o w fs d.2.1 e.2.1 d.1 e.1)\/(cA o (Ws o fs 0) ((i,j)::N) false/\¬D9 o w fs):=by
 obtain⟨g,G⟩:=gA b x W fs 0 (fun f v=>⟨v,z f v⟩) d (Zn I);obtain⟨p,H⟩:=gA b x W fs 0 (fun f v=>⟨v,z f v⟩) e (Zn J);have L:WT w (R8 d e)<=96:=by
  have y:=W.le 3 _ ((z _ G).my _ (XW g.pl g.ld).1);have F:=W.le 3 _ ((z _ H).my _ (XW p.pl p.ld).1);have:=NI w d.1.2 e.1.2;show WT w (XD d.1.2 e.1.2)<=96;omega
 have B:(Az o w d e).length<=17000:=Zy tM (Zy (OC w L) W.num);have K:=sR O B;have C:a<4294967296^K1:=by
  have h0:=sR (n:=0) O (by omega);rw[Nat.pow_zero,ZX]at h0;have :a*1<=2*a*a*a:=by
   rw[ZH (2*a*a)];exact Z9 a (Yn (Yn (by decide) b) b)
  omega
 have S:wU d e:=qv (k:=K1) (by decide) C W.w8 W.wp (by omega) g p;have D:=yV W.w8 W.wp g p;have T:PO o (Vu o (kC d e)):=Rs (PB g p).O1;have E:∀u∈Vu o (kC d e),u.2∈Az o w d e:=fun u hu=>by
  obtain⟨y,F⟩:=dP g p u ((Vh o _).mem_iff.1 hu);exact lE W.w8 W.wp y F
 have U:Cf (2*a*a) (Vu o (kC d e)):=(qw g p).sub fun t ht=>(Vh o _).mem_iff.1 ht
 have qh:(kC d e).length<60000:=by
  have y:=PO.fQ D.dc (fun n x=>(ao W.w8 W.wp x).1.1) T E;rw[Sc]at y;omega
 have X:=W.cx (c:=a) (n:=n) (k:=K1) b x (by decide) (V:=WT w (R8 d e)) (by omega) z;have hC:1<=2*a*a:=Yn (Yn (by decide) b) b;obtain⟨m,tr,R,k2⟩:=bt X (tq:=List.replicate (Ws o fs 0).length []) (fun q hq=>by
  rw[(List.mem_replicate.1 hq).2];exact⟨(fun _ h=>by cases h),by simp⟩) (Az o w d e) D (by omega) T E U hC K
 have l:T5 (kC d e):=Qz (PB g p);rcases k2 with⟨rfl,M⟩|⟨t,p1,rfl,M,k4,k5,k6⟩
 ·left;refine⟨.ok I J A S l qh R h,ja W.w8 W.wp g p (M.congr fun φ=>by rw[PK])⟩
 ·right;refine⟨.bad I J A S l qh R (by simp),fun Z=> ?_⟩;have r1:=sO g p (P:=fun n=>L8 n/\WT w n<=WT w (R8 d e)) ⟨oz g p,Zh _⟩;have r2:=(k6.mono (Q:=fun n=>L8 n/\WT w n<=WT w (R8 d e)) fun n x=>(ao W.w8 W.wp x).1).smul (-1);refine zw (Z (WT w (R8 d e))) M ((r1.plus r2).congr fun φ=>by rw[PK];grind) fun f v s hs=> ?_
  obtain⟨Y,y,F,h3⟩:=OM fs 0 (fun f v=>(z f v).pl) f v s hs;rw[<-F];exact k5 Y y
theorem uw {fs:List (List Qm)}(W:On o w fs){a n:Nat}(k:1<=a)(D:a<=2048)(v:n<50000)(u:∀f∈fs,Sa 3 a n f):∀(t:List (Nat×Nat)),(∀p∈t,p.1<(Ws o fs 0).length/\p.2<(Ws o fs 0).length)->
  ∃r,cA o (Ws o fs 0) t r/\(r=true->∀p∈t,∀d e,(Ws o fs 0)[p.1]? =some d->(Ws o fs 0)[p.2]? =some e->SB o w fs d.2.1 e.2.1 d.1 e.1)/\(r=false->¬D9 o w fs)
 |[],_=>⟨true,.nil,(fun _ p b=>by cases b),(fun h=>by cases h)⟩
 |(i,j)::t,b=>by
  obtain⟨r,A,B,C⟩:=uw W k D v u t fun p h=>b p (Zc _ h)
  obtain⟨F,G⟩:=b (i,j) (Ze ..);have c:=Zf F;have g:=Zf G;have s:=gA k v W fs 0 (fun f E=>⟨E,u f E⟩);by_cases l:P2 (Ws o fs 0)[i].1.2 (Ws o fs 0)[j].1.2=Tp
  ·refine⟨r,.skip c g l A,fun x p b d e m q=> ?_,C⟩;rcases Zj.1 b with rfl|b
   ·rw[c]at m;rw[g]at q;cases m;cases q;exact il (s _ (Zn c)).1 (s _ (Zn g)).1 l
   ·exact B x p b d e m q
  ·rcases Ca W k D v u c g l A with⟨m,q⟩|⟨m,q⟩
   ·refine⟨r,m,fun x p b d e y z=> ?_,C⟩;rcases Zj.1 b with rfl|b
    ·rw[c]at y;rw[g]at z;cases y;cases z;exact q
    ·exact B x p b d e y z
   ·exact⟨false,m,(fun h=>by cases h),fun _=>q⟩
theorem ft {n i p q:Nat}(d:i<=n):(p,q)∈Si n i↔p<i/\p<q/\q<n:=by
 unfold Si kU;simp only[Yo,List.mem_range,ZQ];constructor
 ·rintro ⟨x,e,y,f,h⟩;simp only[Zo]at h;omega
 ·rintro ⟨a,b,c⟩;exact⟨p,a,q-(p+1),by omega,by rw[show p+1+(q-(p+1))=q by omega]⟩
theorem Cb {fs:List (List Qm)}(W:On o w fs){a n:Nat}(v:1<=a)(K:a<=2048)(L:n<50000)(m:∀f∈fs,Sa 3 a n f):
  ∃r,cA o (Ws o fs 0) (Si (Ws o fs 0).length (Ws o fs 0).length) r/\(r=true↔D9 o w fs):=by
 obtain⟨r,H,C,I⟩:=uw W v K L m (Si (Ws o fs 0).length (Ws o fs 0).length) fun p M=>by
  obtain⟨p,q⟩:=p;have:=(ft (Zh _)).1 M;exact⟨by omega,by omega⟩
 refine⟨r,H,fun D V=> ?_,fun J=> ?_⟩
 ·refine oQ W.w8 W.wp (fun f b=>(m f b).pl) (fun f b g x z s t N O=> ?_) V;obtain⟨d,E,F,A⟩:=OM fs 0 (fun f b=>(m f b).pl) f b s N;obtain⟨e,e1,e2,B⟩:=OM fs 0 (fun f b=>(m f b).pl) g x t O;obtain⟨i,u⟩:=ZC.1 E;obtain⟨j,k⟩:=ZC.1 e1;have c:=(Zb.1 u).1;have l:=(Zb.1 k).1;have y:i≠j:=fun G=>by
   subst G;rw[u]at k;cases k;exact z (A.symm.trans B)
  rw[<-F,<-A,<-e2,<-B];rcases Nat.lt_or_gt_of_ne y with h|h
  ·exact C D (i,j) ((ft (Zh _)).2 ⟨c,h,l⟩) d e u k
  ·exact(C D (j,i) ((ft (Zh _)).2 ⟨l,h,c⟩) e d k u).sym
 ·cases r with
  |true=>rfl
  |false=>exact absurd J (I rfl)
end Go.Proofs.YtidginchkjhobaaGreat
