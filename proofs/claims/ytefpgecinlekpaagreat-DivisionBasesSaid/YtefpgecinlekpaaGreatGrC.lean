/- S-polynomials of divisors, what IsBasis answers: plain facts. -/
import Derived.Test.YtefpgecinlekpaaGreatMade
namespace Go.Proofs.YtefpgecinlekpaaGreat
open Go.Ev Go.Num
theorem Ss {z:Rat}(hz:z≠0){m:List Nat}(hm:L8 m){f:List Qm}(h:Pl f):Pl (Wo z m f):=⟨dc_timesQ hz hm h.q8 h.dc,q8_timesQ hm h.q8⟩
theorem neg_times {f:List Qm}(h:Q8 f):negQ f=Wo (-1) zM f:=by
 unfold negQ Wp Wo
 exact List.map_congr_left fun t ht=>by rw[addM_zero (h t ht)]
theorem pl_neg {f:List Qm}(h:Pl f):Pl (negQ f):=by
 rw[neg_times h.q8]
 exact Ss (by decide) rfl h
variable {o:List (List Int)}{w:List Nat}{a:Nat}{fs:List (List Qm)}{d e:Dv}
abbrev lcD (d e:Dv):List Nat:=X2 d.1.2 e.1.2
theorem DvI.s8 (h:DvI o w a fs d):L8 d.1.2:=(XL h.pl h.ld).2.1
theorem DvI.s0 (h:DvI o w a fs d):d.1.1≠0:=(XL h.pl h.ld).2.2.1
theorem inv_ne {x:Rat}(h:x≠0):x⁻¹≠0:=fun k=>h (by rw[<-Rat.inv_inv x,k];exact Rat.inv_zero)
theorem lc8 (h:DvI o w a fs d)(k:DvI o w a fs e):L8 (lcD d e):=lcmM_8 h.s8 k.s8
theorem spd_eq (φ:List Nat->Rat)(h:DvI o w a fs d)(k:DvI o w a fs e):prQ (spD d e) φ=d.1.1⁻¹*(prQ d.2.1 fun n=>φ (Xh (Wv (lcD d e) d.1.2) n))-e.1.1⁻¹*prQ e.2.1 fun n=>φ (Xh (Wv (lcD d e) e.1.2) n):=by
 have m1:=VZ (lc8 h k) h.s8
 have m2:=VZ (lc8 h k) k.s8
 have q1:=q8_timesQ (z:=d.1.1⁻¹) m1 h.pl.q8
 have q2:=pl_neg (Ss (inv_ne k.s0) m2 k.pl)
 show prQ (V3 (Wo d.1.1⁻¹ (Wv (lcD d e) d.1.2) d.2.1) (negQ (Wo e.1.1⁻¹ (Wv (lcD d e) e.1.2) e.2.1))) φ=_
 rw[prQ_add φ _ _ _ (Zg _) q1 q2.q8,prQ_neg]
 rw[prQ_times,prQ_times];grind
theorem spd_pl (h:DvI o w a fs d)(k:DvI o w a fs e):Pl (spD d e):=
 (Ss (inv_ne h.s0) (VZ (lc8 h k) h.s8) h.pl).add (pl_neg (Ss (inv_ne k.s0) (VZ (lc8 h k) k.s8) k.pl))
theorem lc_add1 (h:DvI o w a fs d)(k:DvI o w a fs e):Xh (Wv (lcD d e) d.1.2) d.1.2=lcD d e:=by
 rw[XE];exact Uy (h.s8.trans (lc8 h k).symm) (SJ _ _ (h.s8.trans k.s8.symm))
theorem lc_add2 (h:DvI o w a fs d)(k:DvI o w a fs e):Xh (Wv (lcD d e) e.1.2) e.1.2=lcD d e:=by
 rw[XE];exact Uy (k.s8.trans (lc8 h k).symm) (SI _ _ (h.s8.trans k.s8.symm))
theorem prod_le (h:DvI o w a fs d){m L:List Nat}(hm:L8 m)(hL:Xh m d.1.2=L):∀u∈d.2.1,InW w (wtN w L) (Xh m u.2)/\LeO o (Xh m u.2) L:=fun u hu=>by
 have hu8:=h.pl.q8 u hu
 refine⟨⟨Tn hm hu8,?_⟩,?_⟩
 ·rw[UU w (hm.trans hu8.symm),<-hL,UU w (hm.trans h.s8.symm)]
  have:=h.wl u hu;omega
 ·rw[<-hL];exact(leadO_le h.pl h.ld u hu).add hm hu8 h.s8
theorem prQ_lead (h:DvI o w a fs d){m L:List Nat}(hm:L8 m)(hL:Xh m d.1.2=L):(prQ d.2.1 fun n=>Vo L (Xh m n))=d.1.1:=by
 obtain⟨s1,s2,s3,s4⟩:=XL h.pl h.ld
 rw[prQ_at h.pl s1 (φ:=fun n=>Vo L (Xh m n)) fun u hu=> ?_]
 ·show Vo L (Xh m d.1.2)*d.1.1=_
  unfold Vo;rw[if_pos hL];grind
 ·rcases s4 u hu with e|e
  ·exact .inl e
  ·right
   have:=e.add hm (h.pl.q8 u hu) s2
   rw[hL]at this
   show Vo L (Xh m u.2)=0
   unfold Vo;rw[if_neg this.ne]
theorem spd_mem (h:DvI o w a fs d)(k:DvI o w a fs e):∀x∈spD d e,InW w (wtN w (lcD d e)) x.2/\LtO o x.2 (lcD d e):=by
 intro x hx
 have m1:=VZ (lc8 h k) h.s8
 have m2:=VZ (lc8 h k) k.s8
 have hp:=spd_pl h k
 have hle:InW w (wtN w (lcD d e)) x.2/\LeO o x.2 (lcD d e):=by
  rcases U9 _ (Zg _) (q8_timesQ m1 h.pl.q8) (pl_neg (Ss (inv_ne k.s0) m2 k.pl)).q8 hx with⟨y,hy,e⟩|⟨y,hy,e⟩
  ·unfold Wo at hy
   obtain⟨u,hu,rfl⟩:=ZM.1 hy
   rw[<-e];exact prod_le h m1 (lc_add1 h k) u hu
  ·unfold negQ Wp at hy
   obtain⟨y2,hy2,rfl⟩:=ZM.1 hy
   unfold Wo at hy2
   obtain⟨u,hu,rfl⟩:=ZM.1 hy2
   rw[<-e];exact prod_le k m2 (lc_add2 h k) u hu
 refine⟨hle.1,hle.2.resolve_left fun e=> ?_⟩
 have hc:=hp.nzs.coefAt x hx
 rw[coef_eq,e,spd_eq _ h k,prQ_lead h m1 (lc_add1 h k),prQ_lead k m2 (lc_add2 h k),Rat.inv_mul_cancel _ h.s0,Rat.inv_mul_cancel _ k.s0]at hc
 exact hp.dc.nz x hx (by rw[<-hc];grind)
theorem over_lead (h:DvI o w a fs d):∃E:Nat,0<E/\E<=a/\∀u∈d.2.1,∃z:Int,d.1.1⁻¹*u.1*(E:Rat)=(z:Rat)/\z.natAbs<=a:=by
 obtain⟨s1,s2,s3,s4⟩:=XL h.pl h.ld
 obtain⟨q,q1,q2,q3⟩:=h.cd
 obtain⟨ys,ys1,ys2⟩:=q3 d.1 s1
 have hq0:(q:Rat)≠0:=by
  intro h
  have :q=0:=by exact_mod_cast h
  omega
 have hys:ys≠0:=by
  intro h
  rw[h]at ys1
  have :d.1.1*(q:Rat)=0:=ys1
  exact(Rat.mul_eq_zero.1 this).elim s3 hq0
 obtain⟨e,he1,he2⟩:=sgn_cast ys hys
 refine⟨ys.natAbs,Int.natAbs_pos.2 hys,ys2,fun u hu=> ?_⟩
 obtain⟨y,y1,y2⟩:=q3 u hu
 refine⟨e*y,?_,by rw[Yi,he2,Z9];exact y2⟩
 rw[he1,Yl,Yl,<-ys1,<-y1]
 have hi:d.1.1⁻¹*d.1.1=1:=Rat.inv_mul_cancel _ s3
 have :d.1.1⁻¹*u.1*((e:Rat)*(d.1.1*(q:Rat)))=(d.1.1⁻¹*d.1.1)*((e:Rat)*(u.1*(q:Rat))):=by grind
 rw[this,hi,Rat.one_mul]
theorem prQ_atm' {q:List Qm}(hq:Nz q){m n:List Nat}(hm:L8 m):prQ q (fun k=>Vo n (Xh m k))=0\/∃u∈q,prQ q (fun k=>Vo n (Xh m k))=u.1:=by
 have e:prQ q (fun k=>Vo n (Xh m k))=prQ q (fun k=>Vo n (Xh k m)):=Ub fun u _=>by rw[XE]
 rw[e]
 rcases prQ_atm hq (m:=m) (n:=n) hm with h|⟨u,hu,-,h⟩
 ·exact .inl h
 ·exact .inr ⟨u,hu,h⟩
theorem spd_cf (h:DvI o w a fs d)(k:DvI o w a fs e):Cf (2*a*a) (spD d e):=by
 have m1:=VZ (lc8 h k) h.s8
 have m2:=VZ (lc8 h k) k.s8
 obtain⟨E,e1,e2,e3⟩:=over_lead h
 obtain⟨F,f1,f2,f3⟩:=over_lead k
 have hEF:E*F<=a*a:=Yz e2 f2
 refine⟨E*F,Nat.mul_pos e1 f1,by rw[Yj];omega,fun x hx=> ?_⟩
 have hc:=(spd_pl h k).nzs.coefAt x hx
 rw[coef_eq,spd_eq _ h k]at hc
 have p1:∃z:Int,d.1.1⁻¹*(prQ d.2.1 fun n=>Vo x.2 (Xh (Wv (lcD d e) d.1.2) n))*((E*F:Nat):Rat)=(z:Rat)/\z.natAbs<=a*a:=by
  rcases prQ_atm' h.pl.nzs (m:=Wv (lcD d e) d.1.2) (n:=x.2) m1 with e|⟨u,hu,e⟩
  ·exact⟨0,by rw[e,Rat.mul_zero,Rat.zero_mul];rfl,Zr _⟩
  ·obtain⟨z,z1,z2⟩:=e3 u hu
   refine⟨z*F,by rw[e,Rat.natCast_mul,<-Rat.mul_assoc,z1,Yl,Rat.intCast_natCast],?_⟩
   rw[Yi,ZV]
   exact Yz z2 f2
 have p2:∃z:Int,e.1.1⁻¹*(prQ e.2.1 fun n=>Vo x.2 (Xh (Wv (lcD d e) e.1.2) n))*((E*F:Nat):Rat)=(z:Rat)/\z.natAbs<=a*a:=by
  rcases prQ_atm' k.pl.nzs (m:=Wv (lcD d e) e.1.2) (n:=x.2) m2 with e|⟨u,hu,e⟩
  ·exact⟨0,by rw[e,Rat.mul_zero,Rat.zero_mul];rfl,Zr _⟩
  ·obtain⟨z,z1,z2⟩:=f3 u hu
   refine⟨z*E,by rw[e,ZE,Rat.natCast_mul,<-Rat.mul_assoc,z1,Yl,Rat.intCast_natCast],?_⟩
   rw[Yi,ZV]
   exact Yz z2 e2
 obtain⟨z,z1,z2⟩:=p1
 obtain⟨y,y1,y2⟩:=p2
 refine⟨z-y,?_,?_⟩
 ·rw[<-hc,Rat.intCast_sub,<-z1,<-y1];grind
 ·rw[Yj];omega
theorem spd_ok {k:Nat}(hk:k<10000000)(hs:a<4294967296^k)(h8:w.length=8)(hw:∀x∈w,0<x)(hW:wtN w (lcD d e)<=65535)(h:DvI o w a fs d)(g:DvI o w a fs e):SpOk d e:=by
 have m1:=VZ (lc8 h g) h.s8
 have m2:=VZ (lc8 h g) g.s8
 have szf:∀{d:Dv},DvI o w a fs d->∀u∈d.2.1,Sq u.1:=fun{d} h u hu=>by
  obtain⟨q,q1,q2,q3⟩:=h.cd
  obtain⟨y,y1,y2⟩:=q3 u hu
  exact Sq.le hk q1 y1 q2 y2 hs
 have szr:∀{d:Dv} (m:List Nat),DvI o w a fs d->Sz (Wo d.1.1⁻¹ m d.2.1):=fun{d} m h t ht=>by
  unfold Wo at ht
  obtain⟨u,hu,rfl⟩:=ZM.1 ht
  obtain⟨E,e1,e2,e3⟩:=over_lead h
  obtain⟨z,z1,z2⟩:=e3 u hu
  exact Sq.le hk e1 z1 e2 z2 hs
 have s1:=(XL h.pl h.ld).1
 have t1:=(XL g.pl g.ld).1
 exact⟨szf h _ s1,h.s0,szf g _ t1,g.s0,szf h,szf g,fun u hu=>(prod_le h m1 (lc_add1 h g) u hu).1.ok h8 hw hW,fun u hu=>(prod_le g m2 (lc_add2 h g) u hu).1.ok h8 hw hW,szr _ h,szr _ g,by have:=h.len;omega,by have:=g.len;omega⟩
def lsD (o:List (List Int))(w:List Nat)(d e:Dv):List (List Nat):=(Tz o (allM w (wtN w (lcD d e)))).filter fun n=>decide (LtO o n (lcD d e))
theorem lsD_I (h8:w.length=8)(hw:∀x∈w,0<x)(h:DvI o w a fs d)(g:DvI o w a fs e):LsI o w (wtN w (lcD d e)) (lsD o w d e):=by
 have hin:∀n∈allM w (wtN w (lcD d e)),InW w (wtN w (lcD d e)) n:=fun n hn=>by
  obtain⟨a,b⟩:=allM_mem hn hw
  exact⟨a.trans h8,b⟩
 refine⟨(sortM_dc fun n hn=>(hin n hn).1).sublist List.filter_sublist,fun n hn=>hin n (Vd.1 (YC.1 hn).1),fun δ hδ n hn hlt=> ?_⟩
 obtain⟨x1,x2⟩:=YC.1 hδ
 refine YC.2 ⟨Vd.2 (mem_allM (h8.trans hn.1.symm) hw hn.2),?_⟩
 exact decide_eq_true (hlt.trans hn.1 (hin δ (Vd.1 x1)).1 (lc8 h g) (of_decide_eq_true x2))
theorem lsD_mem (h8:w.length=8)(hw:∀x∈w,0<x){n:List Nat}(hn:InW w (wtN w (lcD d e)) n)(hlt:LtO o n (lcD d e)):n∈lsD o w d e:=
 YC.2 ⟨Vd.2 (mem_allM (h8.trans hn.1.symm) hw hn.2),decide_eq_true hlt⟩
theorem lsD_sub {n:List Nat}(h8:w.length=8)(hw:∀x∈w,0<x)(h:n∈lsD o w d e):InW w (wtN w (lcD d e)) n/\LtO o n (lcD d e):=by
 obtain⟨x1,x2⟩:=YC.1 h
 obtain⟨a,b⟩:=allM_mem (Vd.1 x1) hw
 exact⟨⟨a.trans h8,b⟩,of_decide_eq_true x2⟩
theorem lsD_len:(lsD o w d e).length<=numM w (wtN w (lcD d e)):=
 ZC (List.length_filter_le ..) (ZC (sortM_len _) (allM_len ..))
theorem spd_rep (h:DvI o w a fs d)(g:DvI o w a fs e){P:List Nat->Prop}(hP:P (lcD d e)):Rep o fs P fun φ=>prQ (spD d e) φ:=by
 have m1:=VZ (lc8 h g) h.s8
 have m2:=VZ (lc8 h g) g.s8
 have r1:Rep o fs P _:=Rep.add (c:=d.1.1⁻¹) (P:=P) (v:=fun φ=>d.1.1⁻¹*prQ d.2.1 fun n=>φ (Xh (Wv (lcD d e) d.1.2) n)) (w:=fun _=>0) h.mem h.ld m1 (by rw[lc_add1 h g];exact hP) (.zero fun _=>rfl) fun φ=>by grind
 refine Rep.add (c:= -e.1.1⁻¹) g.mem g.ld m2 (by rw[lc_add2 h g];exact hP) r1 fun φ=> ?_
 rw[spd_eq _ h g];grind
theorem sb_of_rep (h8:w.length=8)(hw:∀x∈w,0<x)(h:DvI o w a fs d)(g:DvI o w a fs e)(hr:Rep o fs (fun n=>n∈lsD o w d e) fun φ=>prQ (spD d e) φ):SB o w fs d.2.1 e.2.1 d.1 e.1:=by
 unfold SB
 refine((hr.mono fun n hn=> ?_).smul (d.1.1*e.1.1)).congr fun φ=> ?_
 ·obtain⟨x1,x2⟩:=lsD_sub h8 hw hn
  exact⟨x1.1,x1.2,x2⟩
 ·rw[spd_eq _ h g]
  have h1:d.1.1*d.1.1⁻¹=1:=Rat.mul_inv_cancel _ h.s0
  have h2:e.1.1*e.1.1⁻¹=1:=Rat.mul_inv_cancel _ g.s0
  generalize (prQ d.2.1 fun n=>φ (Xh (Wv (X2 d.1.2 e.1.2) d.1.2) n))=X
  generalize (prQ e.2.1 fun n=>φ (Xh (Wv (X2 d.1.2 e.1.2) e.1.2) n))=Y
  have :d.1.1*e.1.1*(d.1.1⁻¹*X-e.1.1⁻¹*Y)=(d.1.1*d.1.1⁻¹)*(e.1.1*X)-(e.1.1*e.1.1⁻¹)*(d.1.1*Y):=by grind
  rw[this,h1,h2];grind
theorem sb_of_coprime (h:DvI o w a fs d)(g:DvI o w a fs e)(hg:gcdM d.1.2 e.1.2=Tk):SB o w fs d.2.1 e.2.1 d.1 e.1:=
 SB.coprime h.mem g.mem h.ld g.ld h.perm g.perm h.po g.po h.wl g.wl fun x hx=>by
  rw[hg]at hx
  simp only[Zk,Yk,or_false]at hx
  omega
end Go.Proofs.YtefpgecinlekpaaGreat
namespace Go.Proofs.YtefpgecinlekpaaGreat
open Go.Ev Go.Num
structure OrdW (o:List (List Int))(w:List Nat):Prop where
 o8:Tj o
 ol:o.length<1000000
 w8:w.length=8
 wp:∀a∈w,0<a
 ok:∀m n,Dg3 3 m->Dg3 3 n->LtO o m n->wtN w m<=wtN w n
 le:∀d m,Dg3 d m->wtN w m<=16*d
 num:numM w 96<=17000
variable {o:List (List Int)}{w:List Nat}
theorem dvi_of {c:Nat}(hc:1<=c)(W:OrdW o w){fs:List (List Qm)}{f:List Qm}(hf:f∈fs){n:Nat}(hn:n<50000)(g:Gen 3 c n f){s:Qm}{us:List Qm}(e:U3 o f=s::us)(i:Nat):DvI o w c fs (s,f,us,i):=by
 have hp:=VI o f
 rw[e]at hp
 have hpo:=sortQ_po (o:=o) g.pl.nzs
 rw[e]at hpo
 have hs:s∈f:=hp.mem_iff.1 (Zh ..)
 refine⟨hf,g.pl,lead_sort g.pl e,hpo,hp,⟨1,by omega,hc,fun u hu=> ?_⟩,fun u hu=> ?_,by have:=g.len;show f.length<50000;omega⟩
 ·obtain⟨z,z1,z2⟩:=g.cf u hu
  exact⟨z,by rw[z1];exact Rat.mul_one _,z2⟩
 ·rcases leadO_le g.pl (lead_sort g.pl e) u hu with h|h
  ·show wtN w u.2<=wtN w s.2;rw[h];exact Zg _
  ·exact W.ok _ _ (g.deg u hu) (g.deg s hs) h
theorem dvs_of {c n:Nat}(hc:1<=c)(hn:n<50000)(W:OrdW o w){fs:List (List Qm)}:∀(l:List (List Qm)) (i:Nat),(∀f∈l,f∈fs/\Gen 3 c n f)->∀d∈WN o l i,DvI o w c fs d/\d.2.1∈l
 |[],_,_,d,hd=>by cases hd
 |f::l,i,h,d,hd=>by
  obtain⟨h1,h2⟩:=h f (Zh ..)
  have ih:=dvs_of hc hn W l (i+1) fun g hg=>h g (Zc _ hg)
  unfold WN at hd
  split at hd
  ·obtain⟨a,b⟩:=ih d hd
   exact⟨a,Zc _ b⟩
  ·rename_i t us e
   rcases Zk.1 hd with rfl|hd
   ·exact⟨dvi_of hc W h1 hn h2 e i,Zh ..⟩
   ·obtain⟨a,b⟩:=ih d hd
    exact⟨a,Zc _ b⟩
theorem OrdW.cx {c n k:Nat}(hc:1<=c)(hn:n<50000)(hk:k<10000000)(W:OrdW o w){V:Nat}(hV:V<=65535){fs:List (List Qm)}(h:∀f∈fs,Gen 3 c n f):Cx o w V c k fs (WN o fs 0):=
 ⟨W.w8,W.wp,hV,fun d hd=>(dvs_of hc hn W fs 0 (fun f hf=>⟨hf,h f hf⟩) d hd).1,hc,hk,fun f hf=>(h f hf).pl⟩
theorem wtN_lcm:∀(w s t:List Nat),wtN w (X2 s t)<=wtN w s+wtN w t
 |[],_,_=>by simp[wtN]
 |_::_,[],_=>by simp[wtN,X2]
 |_::_,_::_,[]=>by simp[wtN,X2]
 |a::w,x::s,y::t=>by
  have ih:=wtN_lcm w s t
  unfold X2 at ih⊢
  simp only[ZG,wtN]
  have h1:a*max x y<=a*x+a*y:=by
   rw[<-Nat.mul_add];exact Yq _ (by omega)
  omega
theorem distQ_pl {f:List Qm}(h:Pl f):DistQ f:=h.nzs.nd
end Go.Proofs.YtefpgecinlekpaaGreat
namespace Go.Proofs.YtefpgecinlekpaaGreat
open Go.Ev Go.Num
def oGr:List (List Int):=[[1,1,1,1,1,1,1,1]]
def oRev:List (List Int):=[[1,1,1,1,1,1,1,1],[0,0,0,0,0,0,0,-1],[0,0,0,0,0,0,-1,0],[0,0,0,0,0,-1,0,0],[0,0,0,0,-1,0,0,0],[0,0,0,-1,0,0,0,0],[0,0,-1,0,0,0,0,0],[0,-1,0,0,0,0,0,0]]
def oE1:List (List Int):=[1,0,0,0,0,0,0,0]::oRev
def oE2:List (List Int):=[0,1,0,0,0,0,0,0]::oRev
def wLx:List Nat:=[16,4,1,1000,1000,1000,1000,1000]
def wGr:List Nat:=[16,16,16,1000,1000,1000,1000,1000]
def wE1:List Nat:=[15,3,3,1000,1000,1000,1000,1000]
def wE2:List Nat:=[3,15,3,1000,1000,1000,1000,1000]
theorem row8_dec {r:List Int}(h:(r.length==8&&r.all fun w=>decide (-1000<=w)&&decide (w<=1000))=true):Row8 r:=by
 rw[Zo,ZP]at h
 refine⟨by simpa using h.1,fun w hw=> ?_⟩
 have:=h.2 w hw
 simpa using this
theorem ord8_dec {o:List (List Int)}(h:(o.all fun r=>r.length==8&&r.all fun w=>decide (-1000<=w)&&decide (w<=1000))=true):Tj o:=fun r hr=>row8_dec (ZP.1 h r hr)
theorem lt_cons {r:List Int}{o:List (List Int)}{m n:List Nat}(h:LtO (r::o) m n):wt r m<wt r n\/(wt r m=wt r n/\LtO o m n):=by
 unfold LtO at h⊢
 simp only[Wd]at h
 by_cases h1:wt r n<wt r m
 ·rw[if_pos h1]at h;cases h
 ·rw[if_neg h1]at h
  by_cases h2:wt r m<wt r n
  ·exact .inl h2
  ·rw[if_neg h2]at h
   exact .inr ⟨by omega,h⟩
theorem ltL_cons {a b:Nat}{m n:List Nat}(h:LtO [] (a::m) (b::n)):a<b\/(a=b/\LtO [] m n):=by
 unfold LtO at h⊢
 simp only[Wd,XW]at h
 by_cases h1:b<a
 ·rw[if_pos h1]at h;cases h
 ·rw[if_neg h1]at h
  by_cases h2:a<b
  ·exact .inl h2
  ·rw[if_neg h2]at h
   exact .inr ⟨by omega,h⟩
theorem ow_lex:OrdW [] wLx where
 o8:=fun _ h=>by cases h
 ol:=by decide
 w8:=rfl
 wp:=by decide
 ok:=by
  rintro m n ⟨a,b,c,rfl,h⟩ ⟨x,y,z,rfl,k⟩ hlt
  simp only[wLx,wtN]
  rcases ltL_cons hlt with h1|⟨h1,hlt⟩
  ·omega
  ·rcases ltL_cons hlt with h2|⟨h2,hlt⟩
   ·omega
   ·rcases ltL_cons hlt with h3|⟨h3,hlt⟩
    ·omega
    ·omega
 le:=by
  rintro d m ⟨a,b,c,rfl,h⟩
  simp only[wLx,wtN];omega
 num:=by decide
theorem ow_gr:OrdW oGr wGr where
 o8:=ord8_dec (by decide)
 ol:=by decide
 w8:=rfl
 wp:=by decide
 ok:=by
  rintro m n ⟨a,b,c,rfl,h⟩ ⟨x,y,z,rfl,k⟩ hlt
  have h1:=lt_cons (o:=[]) hlt
  simp only[wt]at h1
  simp only[wGr,wtN]
  omega
 le:=by
  rintro d m ⟨a,b,c,rfl,h⟩
  simp only[wGr,wtN];omega
 num:=by decide
theorem ow_rev:OrdW oRev wGr where
 o8:=ord8_dec (by decide)
 ol:=by decide
 w8:=rfl
 wp:=by decide
 ok:=by
  rintro m n ⟨a,b,c,rfl,h⟩ ⟨x,y,z,rfl,k⟩ hlt
  have h1:=lt_cons hlt
  simp only[wt]at h1
  simp only[wGr,wtN]
  omega
 le:=by
  rintro d m ⟨a,b,c,rfl,h⟩
  simp only[wGr,wtN];omega
 num:=by decide
theorem ow_e1:OrdW oE1 wE1 where
 o8:=ord8_dec (by decide)
 ol:=by decide
 w8:=rfl
 wp:=by decide
 ok:=by
  rintro m n ⟨a,b,c,rfl,h⟩ ⟨x,y,z,rfl,k⟩ hlt
  simp only[wE1,wtN]
  rcases lt_cons hlt with h1|⟨h1,hlt⟩
  ·simp only[wt]at h1;omega
  ·have h2:=lt_cons hlt
   simp only[wt]at h1 h2;omega
 le:=by
  rintro d m ⟨a,b,c,rfl,h⟩
  simp only[wE1,wtN];omega
 num:=by decide
theorem ow_e2:OrdW oE2 wE2 where
 o8:=ord8_dec (by decide)
 ol:=by decide
 w8:=rfl
 wp:=by decide
 ok:=by
  rintro m n ⟨a,b,c,rfl,h⟩ ⟨x,y,z,rfl,k⟩ hlt
  simp only[wE2,wtN]
  rcases lt_cons hlt with h1|⟨h1,hlt⟩
  ·simp only[wt]at h1;omega
  ·have h2:=lt_cons hlt
   simp only[wt]at h1 h2;omega
 le:=by
  rintro d m ⟨a,b,c,rfl,h⟩
  simp only[wE2,wtN];omega
 num:=by decide
inductive OrdL:List (List Int)->List Nat->Prop
 |lex:OrdL [] wLx
 |gr:OrdL oGr wGr
 |rev:OrdL oRev wGr
 |e1:OrdL oE1 wE1
 |e2:OrdL oE2 wE2
theorem OrdL.ow {o:List (List Int)}{w:List Nat}(h:OrdL o w):OrdW o w:=by
 cases h
 ·exact ow_lex
 ·exact ow_gr
 ·exact ow_rev
 ·exact ow_e1
 ·exact ow_e2
abbrev K1:Nat:=6400
theorem size1 {a n:Nat}(ha:a<=2048)(hn:n<=17000):2*a*a*(2*a)^n*a<4294967296^K1:=by
 have h1:(2*a)^n<=4096^n:=Nat.pow_le_pow_left (by omega) n
 have h2:(4096:Nat)^n=2^(12*n):=by rw[show(4096:Nat)=2^12 from rfl,<-Nat.pow_mul]
 have h3:(4294967296:Nat)^K1=2^(32*K1):=by rw[show(4294967296:Nat)=2^32 from rfl,<-Nat.pow_mul]
 have h4:2*a*a*(2*a)^n*a=2*a*a*a*(2*a)^n:=Nat.mul_right_comm ..
 have h5:2*a*a*a<=2*2048*2048*2048:=Yz (Yz (Yq 2 ha) ha) ha
 have h5':2*2048*2048*2048=2^34:=by decide
 rw[h5']at h5
 have h6:=Yz h5 h1
 rw[h2,<-Nat.pow_add]at h6
 have h7:(2:Nat)^(34+12*n)<2^(32*K1):=Nat.pow_lt_pow_right (by decide) (by unfold K1;omega)
 rw[h3,h4]
 exact Z5 h6 h7
variable {o:List (List Int)}{w:List Nat}
def GBA (o:List (List Int))(w:List Nat)(fs:List (List Qm)):Prop:=∀V,GBp o w V fs
theorem dvs_cov:∀(l:List (List Qm)) (i:Nat),(∀f∈l,Pl f)->∀f∈l,∀s,WI o f=some s->∃d∈WN o l i,d.1=s/\d.2.1=f
 |[],_,_,f,hf,_,_=>by cases hf
 |g::l,i,hp,f,hf,s,hs=>by
  have ih:=dvs_cov l (i+1) fun f hf=>hp f (Zc _ hf)
  unfold WN
  split
  ·rename_i e
   rcases Zk.1 hf with rfl|hf
   ·have :f=[]:=by
     have h:=sortQ_len o f
     rw[e]at h
     exact YB h.symm
    subst this;cases hs
   ·exact ih f hf s hs
  ·rename_i t us e
   rcases Zk.1 hf with rfl|hf
   ·have:=lead_sort (hp f (Zh ..)) e
    rw[hs]at this
    cases this
    exact⟨_,Zh ..,rfl,rfl⟩
   ·obtain⟨d,h1,h2⟩:=ih f hf s hs
    exact⟨d,Zc _ h1,h2⟩
theorem bas_one (W:OrdW o w){a n:Nat}(ha1:1<=a)(ha:a<=2048)(hn:n<50000){fs:List (List Qm)}(hg:∀f∈fs,Gen 3 a n f){i j:Nat}{d e:Dv}(hi:(WN o fs 0)[i]? =some d)(hj:(WN o fs 0)[j]? =some e)(hgz:gcdM d.1.2 e.1.2≠Tk){ps:List (Nat×Nat)}{r:Bool}(h:BasP o (WN o fs 0) ps r):
  (BasP o (WN o fs 0) ((i,j)::ps) r/\SB o w fs d.2.1 e.2.1 d.1 e.1)\/(BasP o (WN o fs 0) ((i,j)::ps) false/\¬GBA o w fs):=by
 obtain⟨hd,hdf⟩:=dvs_of ha1 hn W fs 0 (fun f hf=>⟨hf,hg f hf⟩) d (Zu hi)
 obtain⟨he,hef⟩:=dvs_of ha1 hn W fs 0 (fun f hf=>⟨hf,hg f hf⟩) e (Zu hj)
 have hwl:wtN w (lcD d e)<=96:=by
  have h1:=W.le 3 _ ((hg _ hdf).deg _ (XL hd.pl hd.ld).1)
  have h2:=W.le 3 _ ((hg _ hef).deg _ (XL he.pl he.ld).1)
  have:=wtN_lcm w d.1.2 e.1.2
  show wtN w (X2 d.1.2 e.1.2)<=96
  omega
 have hlen:(lsD o w d e).length<=17000:=ZC lsD_len (ZC (numM_mono w hwl) W.num)
 have hsz:=size1 ha hlen
 have hsz0:a<4294967296^K1:=by
  have h0:=size1 (n:=0) ha (by omega)
  rw[Nat.pow_zero,Yd]at h0
  have :a*1<=2*a*a*a:=by
   rw[ZE (2*a*a)]
   exact Yq a (Nat.mul_pos (Nat.mul_pos (by decide) ha1) ha1)
  omega
 have ok:SpOk d e:=spd_ok (k:=K1) (by decide) hsz0 W.w8 W.wp (by omega) hd he
 have lsI:=lsD_I W.w8 W.wp hd he
 have po:PO o (U3 o (spD d e)):=sortQ_po (spd_pl hd he).nzs
 have mem:∀u∈U3 o (spD d e),u.2∈lsD o w d e:=fun u hu=>by
  obtain⟨h1,h2⟩:=spd_mem hd he u ((VI o _).mem_iff.1 hu)
  exact lsD_mem W.w8 W.wp h1 h2
 have cf:Cf (2*a*a) (U3 o (spD d e)):=(spd_cf hd he).sub fun t ht=>(VI o _).mem_iff.1 ht
 have spl:(spD d e).length<60000:=by
  have h1:=PO.len_le lsI.dc (fun n hn=>(lsD_sub W.w8 W.wp hn).1.1) po mem
  rw[sortQ_len]at h1
  omega
 have cx:=W.cx (c:=a) (n:=n) (k:=K1) ha1 hn (by decide) (V:=wtN w (lcD d e)) (by omega) hg
 have hC:1<=2*a*a:=Nat.mul_pos (Nat.mul_pos (by decide) ha1) ha1
 obtain⟨m,tr,k1,k2⟩:=run_first cx (tq:=List.replicate (WN o fs 0).length []) (fun q hq=>by
  rw[(List.mem_replicate.1 hq).2]
  exact⟨(fun _ h=>by cases h),by simp⟩) (lsD o w d e) lsI (by omega) po mem cf hC hsz
 have hdist:DistQ (spD d e):=distQ_pl (spd_pl hd he)
 rcases k2 with⟨rfl,k3⟩|⟨t,p1,rfl,k3,k4,k5,k6⟩
 ·left
  refine⟨.ok hi hj hgz ok hdist spl k1 h,sb_of_rep W.w8 W.wp hd he (k3.congr fun φ=>by rw[prQ_sort])⟩
 ·right
  refine⟨.bad hi hj hgz ok hdist spl k1 (by simp),fun hA=> ?_⟩
  have r1:=spd_rep hd he (P:=fun n=>L8 n/\wtN w n<=wtN w (lcD d e)) ⟨lc8 hd he,Zg _⟩
  have r2:=(k6.mono (Q:=fun n=>L8 n/\wtN w n<=wtN w (lcD d e)) fun n hn=>(lsD_sub W.w8 W.wp hn).1).smul (-1)
  refine gb_first (hA (wtN w (lcD d e))) k3 ((r1.plus r2).congr fun φ=>by rw[prQ_sort];grind) fun f hf s hs=> ?_
  obtain⟨d',h1,h2,h3⟩:=dvs_cov fs 0 (fun f hf=>(hg f hf).pl) f hf s hs
  rw[<-h2]
  exact k5 d' h1
theorem bas_all (W:OrdW o w){a n:Nat}(ha1:1<=a)(ha:a<=2048)(hn:n<50000){fs:List (List Qm)}(hg:∀f∈fs,Gen 3 a n f):∀(ps:List (Nat×Nat)),(∀p∈ps,p.1<(WN o fs 0).length/\p.2<(WN o fs 0).length)->
  ∃r,BasP o (WN o fs 0) ps r/\(r=true->∀p∈ps,∀d e,(WN o fs 0)[p.1]? =some d->(WN o fs 0)[p.2]? =some e->SB o w fs d.2.1 e.2.1 d.1 e.1)/\(r=false->¬GBA o w fs)
 |[],_=>⟨true,.nil,(fun _ p hp=>by cases hp),(fun h=>by cases h)⟩
 |(i,j)::ps,hp=>by
  obtain⟨r,h1,h2,h3⟩:=bas_all W ha1 ha hn hg ps fun p h=>hp p (Zc _ h)
  obtain⟨hi,hj⟩:=hp (i,j) (Zh ..)
  have hi':=Zf hi
  have hj':=Zf hj
  have hds:=dvs_of ha1 hn W fs 0 (fun f hf=>⟨hf,hg f hf⟩)
  by_cases hgz:gcdM (WN o fs 0)[i].1.2 (WN o fs 0)[j].1.2=Tk
  ·refine⟨r,.skip hi' hj' hgz h1,fun hr p hp d e k1 k2=> ?_,h3⟩
   rcases Zk.1 hp with rfl|hp
   ·rw[hi']at k1;rw[hj']at k2
    cases k1;cases k2
    exact sb_of_coprime (hds _ (Zu hi')).1 (hds _ (Zu hj')).1 hgz
   ·exact h2 hr p hp d e k1 k2
  ·rcases bas_one W ha1 ha hn hg hi' hj' hgz h1 with⟨k1,k2⟩|⟨k1,k2⟩
   ·refine⟨r,k1,fun hr p hp d e l1 l2=> ?_,h3⟩
    rcases Zk.1 hp with rfl|hp
    ·rw[hi']at l1;rw[hj']at l2
     cases l1;cases l2
     exact k2
    ·exact h2 hr p hp d e l1 l2
   ·exact⟨false,k1,(fun h=>by cases h),fun _=>k2⟩
theorem ppre_mem {n i p q:Nat}(hi:i<=n):(p,q)∈Uq n i↔p<i/\p<q/\q<n:=by
 unfold Uq prow
 simp only[Ya,List.mem_range,ZM]
 constructor
 ·rintro ⟨x,hx,y,hy,h⟩
  simp only[Zl]at h
  omega
 ·rintro ⟨h1,h2,h3⟩
  exact⟨p,h1,q-(p+1),by omega,by rw[show p+1+(q-(p+1))=q by omega]⟩
theorem bas_iff (W:OrdW o w){a n:Nat}(ha1:1<=a)(ha:a<=2048)(hn:n<50000){fs:List (List Qm)}(hg:∀f∈fs,Gen 3 a n f):
  ∃r,BasP o (WN o fs 0) (Uq (WN o fs 0).length (WN o fs 0).length) r/\(r=true↔GBA o w fs):=by
 obtain⟨r,h1,h2,h3⟩:=bas_all W ha1 ha hn hg (Uq (WN o fs 0).length (WN o fs 0).length) fun p hp=>by
  obtain⟨p,q⟩:=p
  have:=(ppre_mem (Zg _)).1 hp
  exact⟨by omega,by omega⟩
 refine⟨r,h1,fun hr V=> ?_,fun hA=> ?_⟩
 ·refine gb_of_sb W.w8 W.wp (fun f hf=>(hg f hf).pl) (fun f hf g hgm hne s t hs ht=> ?_) V
  obtain⟨d,d1,d2,d3⟩:=dvs_cov fs 0 (fun f hf=>(hg f hf).pl) f hf s hs
  obtain⟨e,e1,e2,e3⟩:=dvs_cov fs 0 (fun f hf=>(hg f hf).pl) g hgm t ht
  obtain⟨i,hi⟩:=Z2.1 d1
  obtain⟨j,hj⟩:=Z2.1 e1
  have hil:=(Zb.1 hi).1
  have hjl:=(Zb.1 hj).1
  have hij:i≠j:=fun e'=>by
   subst e'
   rw[hi]at hj
   cases hj
   exact hne (d3.symm.trans e3)
  rw[<-d2,<-d3,<-e2,<-e3]
  rcases Nat.lt_or_gt_of_ne hij with h|h
  ·exact h2 hr (i,j) ((ppre_mem (Zg _)).2 ⟨hil,h,hjl⟩) d e hi hj
  ·exact(h2 hr (j,i) ((ppre_mem (Zg _)).2 ⟨hjl,h,hil⟩) e d hj hi).sym
 ·cases r with
  |true=>rfl
  |false=>exact absurd hA (h3 rfl)
def Like (o:List (List Int))(fs gs:List (List Qm)):Prop:=∀g∈gs,∀s,WI o g=some s->∃f∈fs,∃s',WI o f=some s'/\s'.2=s.2/\∃q:Rat,∀φ,prQ g φ=q*prQ f φ
theorem rep_like {fs gs:List (List Qm)}(h:Like o fs gs){P:List Nat->Prop}{v:Num.Fn}(r:Rep o gs P v):Rep o fs P v:=by
 induction r with
 |zero h=>exact .zero h
 |@add v w g s c m hg hs hm hP hw hv ih=>
  obtain⟨f,hf,s',h1,h2,q,h3⟩:=h g hg s hs
  exact .add (c:=c*q) hf h1 hm (by rw[h2];exact hP) ih fun φ=>by rw[hv,h3];grind
theorem GBA.like {fs gs:List (List Qm)}(h:Like o fs gs)(k:Like o gs fs)(hA:GBA o w fs):GBA o w gs:=by
 intro V v hv
 rcases hA V v (rep_like h hv)with h1|⟨δ,f,s,h1,h2,h3,h4,h5,h6⟩
 ·exact .inl h1
 ·obtain⟨g,hg,s',g1,g2,-⟩:=k f h4 s h5
  exact .inr ⟨δ,g,s',h1,h2,h3,hg,g1,by rw[g2];exact h6⟩
theorem gba_mono (W:OrdW o w){fs:List (List Qm)}(hp:∀f∈fs,Pl f/\f.length<=1):GBA o w fs:=by
 intro V
 refine gb_of_sb W.w8 W.wp (fun f hf=>(hp f hf).1) (fun f hf g hg _ s t hs ht=> ?_) V
 have one:∀f∈fs,∀s,WI o f=some s->f=[s]:=fun f hf s hs=>by
  have h1:=(XL (hp f hf).1 hs).1
  have h2:=(hp f hf).2
  match f,h1,h2 with
  |[x],h1,_=>rw[Yo.1 h1]
  |_::_::_,_,h2=>simp at h2
 have e1:=one f hf s hs
 have e2:=one g hg t ht
 have s8:=(XL (hp f hf).1 hs).2.1
 have t8:=(XL (hp g hg).1 ht).2.1
 have hL8:=lcmM_8 s8 t8
 subst e1 e2
 refine .zero fun φ=> ?_
 have a1:Xh (Wv (X2 s.2 t.2) s.2) s.2=X2 s.2 t.2:=by rw[XE];exact Uy (s8.trans hL8.symm) (SJ _ _ (s8.trans t8.symm))
 have a2:Xh (Wv (X2 s.2 t.2) t.2) t.2=X2 s.2 t.2:=by rw[XE];exact Uy (t8.trans hL8.symm) (SI _ _ (s8.trans t8.symm))
 simp only[prQ,a1,a2]
 grind
end Go.Proofs.YtefpgecinlekpaaGreat
