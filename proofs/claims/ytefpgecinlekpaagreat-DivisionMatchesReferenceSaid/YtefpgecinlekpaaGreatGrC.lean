/- S-polynomials of divisors, what IsBasis answers: plain facts. -/
import Derived.Test.YtefpgecinlekpaaGreatMade
namespace Go.Proofs.YtefpgecinlekpaaGreat
open Go.Ev Go.Num
theorem RC {z:Rat}(b:z≠0){m:List Nat}(a:L8 m){f:List Qm}(h:Pl f):Pl (X3 z m f):=⟨cm b a h.q8 h.dc,Tz a h.q8⟩
theorem vx {f:List Qm}(h:Q8 f):Ri f=X3 (-1) zM f:=by
 unfold Ri UI X3;exact List.map_congr_left fun t a=>by rw[ct (h t a)]
theorem fp {f:List Qm}(h:Pl f):Pl (Ri f):=by
 rw[vx h.q8];exact RC (by decide) rfl h
variable {o:List (List Int)}{w:List Nat}{a:Nat}{fs:List (List Qm)}{d e:Dv}
abbrev QK (d e:Dv):List Nat:=Wb d.1.2 e.1.2
theorem Q0.s8 (h:Q0 o w a fs d):L8 d.1.2:=(We h.pl h.ld).2.1
theorem Q0.s0 (h:Q0 o w a fs d):d.1.1≠0:=(We h.pl h.ld).2.2.1
theorem Od {x:Rat}(h:x≠0):x⁻¹≠0:=fun k=>h (by rw[<-Rat.inv_inv x,k];exact Rat.inv_zero)
theorem om (h:Q0 o w a fs d)(k:Q0 o w a fs e):L8 (QK d e):=q0 h.s8 k.s8
theorem kA (b:List Nat->Rat)(h:Q0 o w a fs d)(k:Q0 o w a fs e):Wg (mL d e) b=d.1.1⁻¹*(Wg d.2.1 fun n=>b (Xg (WW (QK d e) d.1.2) n))-e.1.1⁻¹*Wg e.2.1 fun n=>b (Xg (WW (QK d e) e.1.2) n):=by
 have c:=U6 (om h k) h.s8;have f:=U6 (om h k) k.s8;have g:=Tz (z:=d.1.1⁻¹) c h.pl.q8;have i:=fp (RC (Od k.s0) f k.pl);show Wg (Vu (X3 d.1.1⁻¹ (WW (QK d e) d.1.2) d.2.1) (Ri (X3 e.1.1⁻¹ (WW (QK d e) e.1.2) e.2.1))) b=_;rw[Rg b _ _ _ (Zh _) g i.q8,kO];rw[QA,QA];grind
theorem eI (h:Q0 o w a fs d)(k:Q0 o w a fs e):Pl (mL d e):=
 (RC (Od h.s0) (U6 (om h k) h.s8) h.pl).add (fp (RC (Od k.s0) (U6 (om h k) k.s8) k.pl))
theorem dY (h:Q0 o w a fs d)(k:Q0 o w a fs e):Xg (WW (QK d e) d.1.2) d.1.2=QK d e:=by
 rw[X7];exact RO (h.s8.trans (om h k).symm) (QR _ _ (h.s8.trans k.s8.symm))
theorem dX (h:Q0 o w a fs d)(k:Q0 o w a fs e):Xg (WW (QK d e) e.1.2) e.1.2=QK d e:=by
 rw[X7];exact RO (k.s8.trans (om h k).symm) (QQ _ _ (h.s8.trans k.s8.symm))
theorem dP (h:Q0 o w a fs d){m L:List Nat}(c:L8 m)(f:Xg m d.1.2=L):∀u∈d.2.1,rU w (Vr w L) (Xg m u.2)/\um o (Xg m u.2) L:=fun u e=>by
 have b:=h.pl.q8 u e;refine⟨⟨Ty c b,?_⟩,?_⟩
 ·rw[SE w (c.trans b.symm),<-f,SE w (c.trans h.s8.symm)];have:=h.wl u e;omega
 ·rw[<-f];exact(av h.pl h.ld u e).add c b h.s8
theorem nE (h:Q0 o w a fs d){m L:List Nat}(f:L8 m)(b:Xg m d.1.2=L):(Wg d.2.1 fun n=>Vm L (Xg m n))=d.1.1:=by
 obtain⟨g,i,k,j⟩:=We h.pl h.ld;rw[yu h.pl g (φ:=fun n=>Vm L (Xg m n)) fun u c=> ?_]
 ·show Vm L (Xg m d.1.2)*d.1.1=_;unfold Vm;rw[if_pos b];grind
 ·rcases j u c with e|e
  ·exact .inl e
  ·right;have:=e.add f (h.pl.q8 u c) i;rw[b]at this;show Vm L (Xg m u.2)=0;unfold Vm;rw[if_neg this.ne]
theorem sh (h:Q0 o w a fs d)(k:Q0 o w a fs e):∀x∈mL d e,rU w (Vr w (QK d e)) x.2/\Vv o x.2 (QK d e):=by
 intro x i;have j:=U6 (om h k) h.s8;have l:=U6 (om h k) k.s8;have n:=eI h k;have b:rU w (Vr w (QK d e)) x.2/\um o x.2 (QK d e):=by
  rcases SP _ (Zh _) (Tz j h.pl.q8) (fp (RC (Od k.s0) l k.pl)).q8 i with⟨y,c,e⟩|⟨y,c,e⟩
  ·unfold X3 at c;obtain⟨u,g,rfl⟩:=ZH.1 c;rw[<-e];exact dP h j (dY h k) u g
  ·unfold Ri UI at c;obtain⟨p,f,rfl⟩:=ZH.1 c;unfold X3 at f;obtain⟨u,g,rfl⟩:=ZH.1 f;rw[<-e];exact dP k l (dX h k) u g
 refine⟨b.1,b.2.resolve_left fun e=> ?_⟩;have m:=n.Nd.Pv x i;rw[V5,e,kA _ h k,nE h j (dY h k),nE k l (dX h k),Rat.inv_mul_cancel _ h.s0,Rat.inv_mul_cancel _ k.s0]at m;exact n.dc.nz x i (by rw[<-m];grind)
theorem bI (h:Q0 o w a fs d):∃E:Nat,0<E/\E<=a/\∀u∈d.2.1,∃z:Int,d.1.1⁻¹*u.1*(E:Rat)=(z:Rat)/\z.natAbs<=a:=by
 obtain⟨r,A,m,B⟩:=We h.pl h.ld;obtain⟨q,v,x,l⟩:=h.cd;obtain⟨j,b,k⟩:=l d.1 r;have i:(q:Rat)≠0:=by
  intro h;have :q=0:=by exact_mod_cast h
  omega
 have c:j≠0:=by
  intro h;rw[h]at b;have :d.1.1*(q:Rat)=0:=b;exact(Rat.mul_eq_zero.1 this).elim m i
 obtain⟨e,f,g⟩:=mW j c;refine⟨j.natAbs,Int.natAbs_pos.2 c,k,fun u p=> ?_⟩;obtain⟨y,s,t⟩:=l u p;refine⟨e*y,?_,by rw[Yg,g,Z0];exact t⟩;rw[f,Ys,Ys,<-b,<-s];have n:d.1.1⁻¹*d.1.1=1:=Rat.inv_mul_cancel _ m;have :d.1.1⁻¹*u.1*((e:Rat)*(d.1.1*(q:Rat)))=(d.1.1⁻¹*d.1.1)*((e:Rat)*(u.1*(q:Rat))):=by grind
 rw[this,n,Rat.one_mul]
theorem nF {q:List Qm}(b:Nz q){m n:List Nat}(a:L8 m):Wg q (fun k=>Vm n (Xg m k))=0\/∃u∈q,Wg q (fun k=>Vm n (Xg m k))=u.1:=by
 have e:Wg q (fun k=>Vm n (Xg m k))=Wg q (fun k=>Vm n (Xg k m)):=Vs fun u _=>by rw[X7]
 rw[e];rcases kP b (m:=m) (n:=n) a with h|⟨u,hu,-,h⟩
 ·exact .inl h
 ·exact .inr ⟨u,hu,h⟩
theorem qb (h:Q0 o w a fs d)(k:Q0 o w a fs e):Cf (2*a*a) (mL d e):=by
 have q:=U6 (om h k) h.s8;have r:=U6 (om h k) k.s8;obtain⟨E,e1,e2,e3⟩:=bI h;obtain⟨F,i,f,j⟩:=bI k;have l:E*F<=a*a:=Ya e2 f;refine⟨E*F,Nat.mul_pos e1 i,by rw[Yr];omega,fun x p=> ?_⟩;have g:=(eI h k).Nd.Pv x p;rw[V5,kA _ h k]at g;have s:∃z:Int,d.1.1⁻¹*(Wg d.2.1 fun n=>Vm x.2 (Xg (WW (QK d e) d.1.2) n))*((E*F:Nat):Rat)=(z:Rat)/\z.natAbs<=a*a:=by
  rcases nF h.pl.Nd (m:=WW (QK d e) d.1.2) (n:=x.2) q with e|⟨u,hu,e⟩
  ·exact⟨0,by rw[e,Rat.mul_zero,Rat.zero_mul];rfl,Zs _⟩
  ·obtain⟨z,b,c⟩:=e3 u hu;refine⟨z*F,by rw[e,Rat.natCast_mul,<-Rat.mul_assoc,b,Ys,Rat.intCast_natCast],?_⟩;rw[Yg,ZY];exact Ya c f
 have t:∃z:Int,e.1.1⁻¹*(Wg e.2.1 fun n=>Vm x.2 (Xg (WW (QK d e) e.1.2) n))*((E*F:Nat):Rat)=(z:Rat)/\z.natAbs<=a*a:=by
  rcases nF k.pl.Nd (m:=WW (QK d e) e.1.2) (n:=x.2) r with e|⟨u,hu,e⟩
  ·exact⟨0,by rw[e,Rat.mul_zero,Rat.zero_mul];rfl,Zs _⟩
  ·obtain⟨z,b,c⟩:=j u hu;refine⟨z*E,by rw[e,ZK,Rat.natCast_mul,<-Rat.mul_assoc,b,Ys,Rat.intCast_natCast],?_⟩;rw[Yg,ZY];exact Ya c e2
 obtain⟨z,b,c⟩:=s;obtain⟨y,v,A⟩:=t;refine⟨z-y,?_,?_⟩
 ·rw[<-g,Rat.intCast_sub,<-b,<-v];grind
 ·rw[Yr];omega
theorem qa {k:Nat}(l:k<10000000)(n:a<4294967296^k)(i:w.length=8)(r:∀x∈w,0<x)(j:Vr w (QK d e)<=65535)(h:Q0 o w a fs d)(g:Q0 o w a fs e):wN d e:=by
 have s:=U6 (om h g) h.s8;have v:=U6 (om h g) g.s8;have b:∀{d:Dv},Q0 o w a fs d->∀u∈d.2.1,Sq u.1:=fun{d} h u c=>by
  obtain⟨q,A,B,C⟩:=h.cd;obtain⟨y,G,H⟩:=C u c;exact Sq.le l A G B H n
 have f:∀{d:Dv} (m:List Nat),Q0 o w a fs d->Sz (X3 d.1.1⁻¹ m d.2.1):=fun{d} m h t p=>by
  unfold X3 at p;obtain⟨u,c,rfl⟩:=ZH.1 p;obtain⟨E,e1,e2,e3⟩:=bI h;obtain⟨z,I,J⟩:=e3 u c;exact Sq.le l e1 I e2 J n
 have D:=(We h.pl h.ld).1;have F:=(We g.pl g.ld).1;exact⟨b h _ D,h.s0,b g _ F,g.s0,b h,b g,fun u c=>(dP h s (dY h g) u c).1.ok i r j,fun u c=>(dP g v (dX h g) u c).1.ok i r j,f _ h,f _ g,by have:=h.len;omega,by have:=g.len;omega⟩
def BK (o:List (List Int))(w:List Nat)(d e:Dv):List (List Nat):=(Se o (allM w (Vr w (QK d e)))).filter fun n=>decide (Vv o n (QK d e))
theorem CO (k:w.length=8)(l:∀x∈w,0<x)(h:Q0 o w a fs d)(g:Q0 o w a fs e):Ct o w (Vr w (QK d e)) (BK o w d e):=by
 have f:∀n∈allM w (Vr w (QK d e)),rU w (Vr w (QK d e)) n:=fun n c=>by
  obtain⟨a,b⟩:=OA c l;exact⟨a.trans k,b⟩
 refine⟨(NW fun n c=>(f n c).1).sublist List.filter_sublist,fun n c=>f n (W6.1 (Yt.1 c).1),fun q j n c i=> ?_⟩;obtain⟨m,p⟩:=Yt.1 j;refine Yt.2 ⟨W6.2 (RE (k.trans c.1.symm) l c.2),?_⟩;exact decide_eq_true (i.trans c.1 (f q (W6.1 m)).1 (om h g) (of_decide_eq_true p))
theorem tj (c:w.length=8)(f:∀x∈w,0<x){n:List Nat}(b:rU w (Vr w (QK d e)) n)(a:Vv o n (QK d e)):n∈BK o w d e:=
 Yt.2 ⟨W6.2 (RE (c.trans b.1.symm) f b.2),decide_eq_true a⟩
theorem dU {n:List Nat}(c:w.length=8)(f:∀x∈w,0<x)(h:n∈BK o w d e):rU w (Vr w (QK d e)) n/\Vv o n (QK d e):=by
 obtain⟨g,i⟩:=Yt.1 h;obtain⟨a,b⟩:=OA (W6.1 g) f;exact⟨⟨a.trans c,b⟩,of_decide_eq_true i⟩
theorem tp:(BK o w d e).length<=nQ w (Vr w (QK d e)):=
 ZD (List.length_filter_le ..) (ZD (bp _) (gN ..))
theorem sg (h:Q0 o w a fs d)(g:Q0 o w a fs e){P:List Nat->Prop}(f:P (QK d e)):SD o fs P fun b=>Wg (mL d e) b:=by
 have i:=U6 (om h g) h.s8;have j:=U6 (om h g) g.s8;have k:SD o fs P _:=SD.add (c:=d.1.1⁻¹) (P:=P) (v:=fun b=>d.1.1⁻¹*Wg d.2.1 fun n=>b (Xg (WW (QK d e) d.1.2) n)) (w:=fun _=>0) h.mem h.ld i (by rw[dY h g];exact f) (.zero fun _=>rfl) fun b=>by grind
 refine SD.add (c:= -e.1.1⁻¹) g.mem g.ld j (by rw[dX h g];exact f) k fun b=> ?_
 rw[kA _ h g];grind
theorem iZ (j:w.length=8)(m:∀x∈w,0<x)(h:Q0 o w a fs d)(g:Q0 o w a fs e)(l:SD o fs (fun n=>n∈BK o w d e) fun b=>Wg (mL d e) b):SB o w fs d.2.1 e.2.1 d.1 e.1:=by
 unfold SB;refine((l.mono fun n k=> ?_).smul (d.1.1*e.1.1)).congr fun b=> ?_
 ·obtain⟨c,p⟩:=dU j m k;exact⟨c.1,c.2,p⟩
 ·rw[kA _ h g];have f:d.1.1*d.1.1⁻¹=1:=Rat.mul_inv_cancel _ h.s0;have i:e.1.1*e.1.1⁻¹=1:=Rat.mul_inv_cancel _ g.s0;generalize (Wg d.2.1 fun n=>b (Xg (WW (Wb d.1.2 e.1.2) d.1.2) n))=X;generalize (Wg e.2.1 fun n=>b (Xg (WW (Wb d.1.2 e.1.2) e.1.2) n))=Y;have :d.1.1*e.1.1*(d.1.1⁻¹*X-e.1.1⁻¹*Y)=(d.1.1*d.1.1⁻¹)*(e.1.1*X)-(e.1.1*e.1.1⁻¹)*(d.1.1*Y):=by grind
  rw[this,f,i];grind
theorem iy (h:Q0 o w a fs d)(g:Q0 o w a fs e)(c:Og d.1.2 e.1.2=To):SB o w fs d.2.1 e.2.1 d.1 e.1:=
 SB.coprime h.mem g.mem h.ld g.ld h.perm g.perm h.po g.po h.wl g.wl fun x b=>by
  rw[c]at b;simp only[Zk,ZX,or_false]at b;omega
end Go.Proofs.YtefpgecinlekpaaGreat
namespace Go.Proofs.YtefpgecinlekpaaGreat
open Go.Ev Go.Num
structure PA (o:List (List Int))(w:List Nat):Prop where
 o8:VE o
 ol:o.length<1000000
 w8:w.length=8
 wp:∀a∈w,0<a
 ok:∀m n,pP 4 m->pP 4 n->Vv o m n->Vr w m<=Vr w n
 le:∀d m,pP d m->Vr w m<=16*d
 num:nQ w 96<=17000
variable {o:List (List Int)}{w:List Nat}
theorem gA {c:Nat}(m:1<=c)(W:PA o w){fs:List (List Qm)}{f:List Qm}(p:f∈fs){d n:Nat}(v:n<50000)(g:U5 d c n f){s:Qm}{l:List Qm}(e:Va o f=s::l)(i:Nat)(k:d<=4:=by omega):Q0 o w c fs (s,f,l,i):=by
 have j:=Vy o f;rw[e]at j;have a:=Rv (o:=o) g.pl.Nd;rw[e]at a;have q:s∈f:=j.mem_iff.1 (Ze ..);refine⟨p,g.pl,QH g.pl e,a,j,⟨1,by omega,m,fun u b=> ?_⟩,fun u b=> ?_,by have:=g.len;show f.length<50000;omega⟩
 ·obtain⟨z,r,t⟩:=g.cf u b;exact⟨z,by rw[r];exact Rat.mul_one _,t⟩
 ·rcases av g.pl (QH g.pl e) u b with h|h
  ·show Vr w u.2<=Vr w s.2;rw[h];exact Zh _
  ·exact W.ok _ _ ((g.lN u b).mono k) ((g.lN s q).mono k) h
theorem gy {c n:Nat}(j:1<=c)(k:n<50000)(W:PA o w){fs:List (List Qm)}:∀(l:List (List Qm)) (i:Nat),(∀f∈l,f∈fs/\U5 3 c n f)->∀d∈Wz o l i,Q0 o w c fs d/\d.2.1∈l
 |[],_,_,d,hd=>by cases hd
 |f::l,i,h,d,hd=>by
  obtain⟨p,q⟩:=h f (Ze ..);have m:=gy j k W l (i+1) fun g r=>h g (Zc _ r)
  unfold Wz at hd;split at hd
  ·obtain⟨a,b⟩:=m d hd;exact⟨a,Zc _ b⟩
  ·rename_i t s e;rcases Zk.1 hd with rfl|hd
   ·exact⟨gA j W p k q e i,Ze ..⟩
   ·obtain⟨a,b⟩:=m d hd;exact⟨a,Zc _ b⟩
theorem PA.cx {c n k:Nat}(b:1<=c)(j:n<50000)(i:k<10000000)(W:PA o w){V:Nat}(e:V<=65535){fs:List (List Qm)}(h:∀f∈fs,U5 3 c n f):Cx o w V c k fs (Wz o fs 0):=
 ⟨W.w8,W.wp,e,fun d g=>(gy b j W fs 0 (fun f a=>⟨a,h f a⟩) d g).1,b,i,fun f a=>(h f a).pl⟩
theorem dK:∀(w s t:List Nat),Vr w (Wb s t)<=Vr w s+Vr w t
 |[],_,_=>by simp[Vr]
 |_::_,[],_=>by simp[Vr,Wb]
 |_::_,_::_,[]=>by simp[Vr,Wb]
 |a::w,x::s,y::t=>by
  have b:=dK w s t;unfold Wb at b⊢;simp only[ZG,Vr];have c:a*max x y<=a*x+a*y:=by
   rw[<-Nat.mul_add];exact YH _ (by omega)
  omega
theorem SZ {f:List Qm}(h:Pl f):Tk f:=h.Nd.nd
end Go.Proofs.YtefpgecinlekpaaGreat
namespace Go.Proofs.YtefpgecinlekpaaGreat
open Go.Ev Go.Num
def Fb:List (List Int):=[[1,1,1,1,1,1,1,1]]
def nP:List (List Int):=[[1,1,1,1,1,1,1,1],[0,0,0,0,0,0,0,-1],[0,0,0,0,0,0,-1,0],[0,0,0,0,0,-1,0,0],[0,0,0,0,-1,0,0,0],[0,0,0,-1,0,0,0,0],[0,0,-1,0,0,0,0,0],[0,-1,0,0,0,0,0,0]]
def ED:List (List Int):=[1,0,0,0,0,0,0,0]::nP
def EC:List (List Int):=[0,1,0,0,0,0,0,0]::nP
def FH:List Nat:=[16,4,1,1000,1000,1000,1000,1000]
def CD:List Nat:=[16,16,16,1000,1000,1000,1000,1000]
def FJ:List Nat:=[15,3,3,1000,1000,1000,1000,1000]
def FI:List Nat:=[3,15,3,1000,1000,1000,1000,1000]
theorem xK {r:List Int}(h:(r.length==8&&r.all fun w=>decide (-1000<=w)&&decide (w<=1000))=true):rQ r:=by
 rw[Zp,ZP]at h;refine⟨by simpa using h.1,fun w a=> ?_⟩;have:=h.2 w a;simpa using this
theorem aj {o:List (List Int)}(h:(o.all fun r=>r.length==8&&r.all fun w=>decide (-1000<=w)&&decide (w<=1000))=true):VE o:=fun r a=>xK (ZP.1 h r a)
theorem OR {r:List Int}{o:List (List Int)}{m n:List Nat}(h:Vv (r::o) m n):wt r m<wt r n\/(wt r m=wt r n/\Vv o m n):=by
 unfold Vv at h⊢;simp only[WQ]at h;by_cases a:wt r n<wt r m
 ·rw[if_pos a]at h;cases h
 ·rw[if_neg a]at h;by_cases b:wt r m<wt r n
  ·exact .inl b
  ·rw[if_neg b]at h;exact .inr ⟨by omega,h⟩
theorem fJ {a b:Nat}{m n:List Nat}(h:Vv [] (a::m) (b::n)):a<b\/(a=b/\Vv [] m n):=by
 unfold Vv at h⊢;simp only[WQ,Wj]at h;by_cases c:b<a
 ·rw[if_pos c]at h;cases h
 ·rw[if_neg c]at h;by_cases d:a<b
  ·exact .inl d
  ·rw[if_neg d]at h;exact .inr ⟨by omega,h⟩
theorem Dy:PA [] FH where
 o8:=fun _ h=>by cases h
 ol:=by decide
 w8:=rfl
 wp:=by decide
 ok:=by
  rintro m n ⟨a,b,c,rfl,h⟩ ⟨x,y,z,rfl,k⟩ e;simp only[FH,Vr];rcases fJ e with h1|⟨h1,e⟩
  ·omega
  ·rcases fJ e with h2|⟨h2,e⟩
   ·omega
   ·rcases fJ e with h3|⟨h3,e⟩
    ·omega
    ·omega
 le:=by
  rintro d m ⟨a,b,c,rfl,h⟩;simp only[FH,Vr];omega
 num:=by decide
theorem E6:PA Fb CD where
 o8:=aj (by decide)
 ol:=by decide
 w8:=rfl
 wp:=by decide
 ok:=by
  rintro m n ⟨a,b,c,rfl,h⟩ ⟨x,y,z,rfl,k⟩ e;have f:=OR (o:=[]) e;simp only[wt]at f;simp only[CD,Vr];omega
 le:=by
  rintro d m ⟨a,b,c,rfl,h⟩;simp only[CD,Vr];omega
 num:=by decide
theorem Dx:PA nP CD where
 o8:=aj (by decide)
 ol:=by decide
 w8:=rfl
 wp:=by decide
 ok:=by
  rintro m n ⟨a,b,c,rfl,h⟩ ⟨x,y,z,rfl,k⟩ e;have f:=OR e;simp only[wt]at f;simp only[CD,Vr];omega
 le:=by
  rintro d m ⟨a,b,c,rfl,h⟩;simp only[CD,Vr];omega
 num:=by decide
theorem E8:PA ED FJ where
 o8:=aj (by decide)
 ol:=by decide
 w8:=rfl
 wp:=by decide
 ok:=by
  rintro m n ⟨a,b,c,rfl,h⟩ ⟨x,y,z,rfl,k⟩ e;simp only[FJ,Vr];rcases OR e with h1|⟨h1,e⟩
  ·simp only[wt]at h1;omega
  ·have f:=OR e;simp only[wt]at h1 f;omega
 le:=by
  rintro d m ⟨a,b,c,rfl,h⟩;simp only[FJ,Vr];omega
 num:=by decide
theorem E7:PA EC FI where
 o8:=aj (by decide)
 ol:=by decide
 w8:=rfl
 wp:=by decide
 ok:=by
  rintro m n ⟨a,b,c,rfl,h⟩ ⟨x,y,z,rfl,k⟩ e;simp only[FI,Vr];rcases OR e with h1|⟨h1,e⟩
  ·simp only[wt]at h1;omega
  ·have f:=OR e;simp only[wt]at h1 f;omega
 le:=by
  rintro d m ⟨a,b,c,rfl,h⟩;simp only[FI,Vr];omega
 num:=by decide
inductive lZ:List (List Int)->List Nat->Prop
 |lex:lZ [] FH
 |gr:lZ Fb CD
 |rev:lZ nP CD
 |e1:lZ ED FJ
 |e2:lZ EC FI
theorem lZ.ow {o:List (List Int)}{w:List Nat}(h:lZ o w):PA o w:=by
 cases h
 ·exact Dy
 ·exact E6
 ·exact Dx
 ·exact E8
 ·exact E7
abbrev K1:Nat:=6400
theorem iW {a n:Nat}(c:a<=2048)(k:n<=17000):2*a*a*(2*a)^n*a<4294967296^K1:=by
 have f:(2*a)^n<=4096^n:=Nat.pow_le_pow_left (by omega) n;have g:(4096:Nat)^n=2^(12*n):=by rw[show(4096:Nat)=2^12 from rfl,<-Nat.pow_mul]
 have h:(4294967296:Nat)^K1=2^(32*K1):=by rw[show(4294967296:Nat)=2^32 from rfl,<-Nat.pow_mul]
 have i:2*a*a*(2*a)^n*a=2*a*a*a*(2*a)^n:=Nat.mul_right_comm ..;have d:2*a*a*a<=2*2048*2048*2048:=Ya (Ya (YH 2 c) c) c;have b:2*2048*2048*2048=2^34:=by decide
 rw[b]at d;have e:=Ya d f;rw[g,<-Nat.pow_add]at e;have j:(2:Nat)^(34+12*n)<2^(32*K1):=Nat.pow_lt_pow_right (by decide) (by unfold K1;omega);rw[h,i];exact Z5 e j
variable {o:List (List Int)}{w:List Nat}
def Ep (o:List (List Int))(w:List Nat)(fs:List (List Qm)):Prop:=∀V,FZ o w V fs
theorem OZ:∀(l:List (List Qm)) (i:Nat),(∀f∈l,Pl f)->∀f∈l,∀s,Wl o f=some s->∃d∈Wz o l i,d.1=s/\d.2.1=f
 |[],_,_,f,a,_,_=>by cases a
 |g::l,i,hp,f,a,s,hs=>by
  have b:=OZ l (i+1) fun f a=>hp f (Zc _ a)
  unfold Wz;split
  ·rename_i e;rcases Zk.1 a with rfl|a
   ·have :f=[]:=by
     have h:=Sh o f;rw[e]at h;exact Yk h.symm
    subst this;cases hs
   ·exact b f a s hs
  ·rename_i t k e;rcases Zk.1 a with rfl|a
   ·have:=QH (hp f (Ze ..)) e;rw[hs]at this;cases this;exact⟨_,Ze ..,rfl,rfl⟩
   ·obtain⟨d,c,j⟩:=b f a s hs;exact⟨d,Zc _ c,j⟩
theorem Cm (W:PA o w){a n:Nat}(b:1<=a)(O:a<=2048)(x:n<50000){fs:List (List Qm)}(z:∀f∈fs,U5 3 a n f){i j:Nat}{d e:Dv}(I:(Wz o fs 0)[i]? =some d)(J:(Wz o fs 0)[j]? =some e)(A:Og d.1.2 e.1.2≠To){N:List (Nat×Nat)}{r:Bool}(h:cy o (Wz o fs 0) N r):
  (cy o (Wz o fs 0) ((i,j)::N) r/\SB o w fs d.2.1 e.2.1 d.1 e.1)\/(cy o (Wz o fs 0) ((i,j)::N) false/\¬Ep o w fs):=by
 obtain⟨g,G⟩:=gy b x W fs 0 (fun f v=>⟨v,z f v⟩) d (Zt I);obtain⟨p,H⟩:=gy b x W fs 0 (fun f v=>⟨v,z f v⟩) e (Zt J);have L:Vr w (QK d e)<=96:=by
  have y:=W.le 3 _ ((z _ G).lN _ (We g.pl g.ld).1);have F:=W.le 3 _ ((z _ H).lN _ (We p.pl p.ld).1);have:=dK w d.1.2 e.1.2;show Vr w (Wb d.1.2 e.1.2)<=96;omega
 have B:(BK o w d e).length<=17000:=ZD tp (ZD (ON w L) W.num);have K:=iW O B;have C:a<4294967296^K1:=by
  have h0:=iW (n:=0) O (by omega);rw[Nat.pow_zero,Yf]at h0;have :a*1<=2*a*a*a:=by
   rw[ZK (2*a*a)];exact YH a (Nat.mul_pos (Nat.mul_pos (by decide) b) b)
  omega
 have S:wN d e:=qa (k:=K1) (by decide) C W.w8 W.wp (by omega) g p;have D:=CO W.w8 W.wp g p;have T:PO o (Va o (mL d e)):=Rv (eI g p).Nd;have E:∀u∈Va o (mL d e),u.2∈BK o w d e:=fun u hu=>by
  obtain⟨y,F⟩:=sh g p u ((Vy o _).mem_iff.1 hu);exact tj W.w8 W.wp y F
 have U:Cf (2*a*a) (Va o (mL d e)):=(qb g p).sub fun t ht=>(Vy o _).mem_iff.1 ht
 have pR:(mL d e).length<60000:=by
  have y:=PO.lk D.dc (fun n x=>(dU W.w8 W.wp x).1.1) T E;rw[Sh]at y;omega
 have X:=W.cx (c:=a) (n:=n) (k:=K1) b x (by decide) (V:=Vr w (QK d e)) (by omega) z;have hC:1<=2*a*a:=Nat.mul_pos (Nat.mul_pos (by decide) b) b;obtain⟨m,tr,R,k2⟩:=bw X (tq:=List.replicate (Wz o fs 0).length []) (fun q hq=>by
  rw[(List.mem_replicate.1 hq).2];exact⟨(fun _ h=>by cases h),by simp⟩) (BK o w d e) D (by omega) T E U hC K
 have l:Tk (mL d e):=SZ (eI g p);rcases k2 with⟨rfl,M⟩|⟨t,p1,rfl,M,k4,k5,k6⟩
 ·left;refine⟨.ok I J A S l pR R h,iZ W.w8 W.wp g p (M.congr fun φ=>by rw[P2])⟩
 ·right;refine⟨.bad I J A S l pR R (by simp),fun Z=> ?_⟩;have r1:=sg g p (P:=fun n=>L8 n/\Vr w n<=Vr w (QK d e)) ⟨om g p,Zh _⟩;have r2:=(k6.mono (Q:=fun n=>L8 n/\Vr w n<=Vr w (QK d e)) fun n x=>(dU W.w8 W.wp x).1).smul (-1);refine zy (Z (Vr w (QK d e))) M ((r1.plus r2).congr fun φ=>by rw[P2];grind) fun f v s hs=> ?_
  obtain⟨Y,y,F,h3⟩:=OZ fs 0 (fun f v=>(z f v).pl) f v s hs;rw[<-F];exact k5 Y y
theorem ud (W:PA o w){a n:Nat}(k:1<=a)(D:a<=2048)(v:n<50000){fs:List (List Qm)}(u:∀f∈fs,U5 3 a n f):∀(t:List (Nat×Nat)),(∀p∈t,p.1<(Wz o fs 0).length/\p.2<(Wz o fs 0).length)->
  ∃r,cy o (Wz o fs 0) t r/\(r=true->∀p∈t,∀d e,(Wz o fs 0)[p.1]? =some d->(Wz o fs 0)[p.2]? =some e->SB o w fs d.2.1 e.2.1 d.1 e.1)/\(r=false->¬Ep o w fs)
 |[],_=>⟨true,.nil,(fun _ p b=>by cases b),(fun h=>by cases h)⟩
 |(i,j)::t,b=>by
  obtain⟨r,A,B,C⟩:=ud W k D v u t fun p h=>b p (Zc _ h)
  obtain⟨F,G⟩:=b (i,j) (Ze ..);have c:=Zg F;have g:=Zg G;have s:=gy k v W fs 0 (fun f E=>⟨E,u f E⟩);by_cases l:Og (Wz o fs 0)[i].1.2 (Wz o fs 0)[j].1.2=To
  ·refine⟨r,.skip c g l A,fun x p b d e m q=> ?_,C⟩;rcases Zk.1 b with rfl|b
   ·rw[c]at m;rw[g]at q;cases m;cases q;exact iy (s _ (Zt c)).1 (s _ (Zt g)).1 l
   ·exact B x p b d e m q
  ·rcases Cm W k D v u c g l A with⟨m,q⟩|⟨m,q⟩
   ·refine⟨r,m,fun x p b d e y z=> ?_,C⟩;rcases Zk.1 b with rfl|b
    ·rw[c]at y;rw[g]at z;cases y;cases z;exact q
    ·exact B x p b d e y z
   ·exact⟨false,m,(fun h=>by cases h),fun _=>q⟩
theorem fk {n i p q:Nat}(d:i<=n):(p,q)∈Sp n i↔p<i/\p<q/\q<n:=by
 unfold Sp kN;simp only[Yh,List.mem_range,ZH];constructor
 ·rintro ⟨x,e,y,f,h⟩;simp only[Zn]at h;omega
 ·rintro ⟨a,b,c⟩;exact⟨p,a,q-(p+1),by omega,by rw[show p+1+(q-(p+1))=q by omega]⟩
theorem Cn (W:PA o w){a n:Nat}(v:1<=a)(J:a<=2048)(K:n<50000){fs:List (List Qm)}(m:∀f∈fs,U5 3 a n f):
  ∃r,cy o (Wz o fs 0) (Sp (Wz o fs 0).length (Wz o fs 0).length) r/\(r=true↔Ep o w fs):=by
 obtain⟨r,G,B,H⟩:=ud W v J K m (Sp (Wz o fs 0).length (Wz o fs 0).length) fun p L=>by
  obtain⟨p,q⟩:=p;have:=(fk (Zh _)).1 L;exact⟨by omega,by omega⟩
 refine⟨r,G,fun C V=> ?_,fun I=> ?_⟩
 ·refine oJ W.w8 W.wp (fun f b=>(m f b).pl) (fun f b g x z s t M N=> ?_) V;obtain⟨d,D,E,A⟩:=OZ fs 0 (fun f b=>(m f b).pl) f b s M;obtain⟨e,e1,e2,e3⟩:=OZ fs 0 (fun f b=>(m f b).pl) g x t N;obtain⟨i,u⟩:=ZM.1 D;obtain⟨j,k⟩:=ZM.1 e1;have c:=(Zd.1 u).1;have l:=(Zd.1 k).1;have y:i≠j:=fun F=>by
   subst F;rw[u]at k;cases k;exact z (A.symm.trans e3)
  rw[<-E,<-A,<-e2,<-e3];rcases Nat.lt_or_gt_of_ne y with h|h
  ·exact B C (i,j) ((fk (Zh _)).2 ⟨c,h,l⟩) d e u k
  ·exact(B C (j,i) ((fk (Zh _)).2 ⟨l,h,c⟩) e d k u).sym
 ·cases r with
  |true=>rfl
  |false=>exact absurd I (H rfl)
end Go.Proofs.YtefpgecinlekpaaGreat
