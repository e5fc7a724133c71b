/- S-polynomials of divisors, what IsBasis answers: plain facts. -/
import Derived.Test.YtefpgecinlekpaaGreatMade
import Derived.Test.YtefpgecinlekpaaGreatQVal
namespace Go.Proofs.YtefpgecinlekpaaGreat
open Go.Ev Go.Num
theorem pl_times {z:Rat}(hz:z≠0){m:List Nat}(hm:L8 m){f:List Qm}(h:Pl f):Pl (Wr z m f):=⟨dc_timesQ hz hm h.q8 h.dc,q8_timesQ hm h.q8⟩
theorem neg_times {f:List Qm}(h:Q8 f):negQ f=Wr (-1) zM f:=by
 unfold negQ Uk Wr
 exact List.map_congr_left fun t ht=>by rw[addM_zero (h t ht)]
theorem pl_neg {f:List Qm}(h:Pl f):Pl (negQ f):=by
 rw[neg_times h.q8]
 exact pl_times (by decide) rfl h
variable {o:List (List Int)}{w:List Nat}{a:Nat}{fs:List (List Qm)}{d e:Dv}
abbrev lcD (d e:Dv):List Nat:=XR d.1.2 e.1.2
theorem DvI.s8 (h:DvI o w a fs d):L8 d.1.2:=(XL h.pl h.ld).2.1
theorem DvI.s0 (h:DvI o w a fs d):d.1.1≠0:=(XL h.pl h.ld).2.2.1
theorem inv_ne {x:Rat}(h:x≠0):x⁻¹≠0:=fun k=>h (by rw[<-Rat.inv_inv x,k];exact Rat.inv_zero)
theorem lc8 (h:DvI o w a fs d)(k:DvI o w a fs e):L8 (lcD d e):=lcmM_8 h.s8 k.s8
theorem spd_eq (φ:List Nat->Rat)(h:DvI o w a fs d)(k:DvI o w a fs e):prQ (spD d e) φ=d.1.1⁻¹*(prQ d.2.1 fun n=>φ (Xg (Wv (lcD d e) d.1.2) n))-e.1.1⁻¹*prQ e.2.1 fun n=>φ (Xg (Wv (lcD d e) e.1.2) n):=by
 have m1:=VU (lc8 h k) h.s8
 have m2:=VU (lc8 h k) k.s8
 have q1:=q8_timesQ (z:=d.1.1⁻¹) m1 h.pl.q8
 have q2:=pl_neg (pl_times (inv_ne k.s0) m2 k.pl)
 show prQ (VY (Wr d.1.1⁻¹ (Wv (lcD d e) d.1.2) d.2.1) (negQ (Wr e.1.1⁻¹ (Wv (lcD d e) e.1.2) e.2.1))) φ=_
 rw[prQ_add φ _ _ _ (Zg _) q1 q2.q8,prQ_neg]
 rw[prQ_times,prQ_times];grind
theorem spd_pl (h:DvI o w a fs d)(k:DvI o w a fs e):Pl (spD d e):=
 (pl_times (inv_ne h.s0) (VU (lc8 h k) h.s8) h.pl).add (pl_neg (pl_times (inv_ne k.s0) (VU (lc8 h k) k.s8) k.pl))
theorem lc_add1 (h:DvI o w a fs d)(k:DvI o w a fs e):Xg (Wv (lcD d e) d.1.2) d.1.2=lcD d e:=by
 rw[XG];exact TM (h.s8.trans (lc8 h k).symm) (divL_lcm1 _ _ (h.s8.trans k.s8.symm))
theorem lc_add2 (h:DvI o w a fs d)(k:DvI o w a fs e):Xg (Wv (lcD d e) e.1.2) e.1.2=lcD d e:=by
 rw[XG];exact TM (k.s8.trans (lc8 h k).symm) (divL_lcm2 _ _ (h.s8.trans k.s8.symm))
theorem prod_le (h:DvI o w a fs d){m L:List Nat}(hm:L8 m)(hL:Xg m d.1.2=L):∀u∈d.2.1,InW w (wtN w L) (Xg m u.2)/\LeO o (Xg m u.2) L:=fun u hu=>by
 have hu8:=h.pl.q8 u hu
 refine⟨⟨Ti hm hu8,?_⟩,?_⟩
 ·rw[UP w (hm.trans hu8.symm),<-hL,UP w (hm.trans h.s8.symm)]
  have:=h.wl u hu;omega
 ·rw[<-hL];exact(leadO_le h.pl h.ld u hu).add hm hu8 h.s8
theorem prQ_lead (h:DvI o w a fs d){m L:List Nat}(hm:L8 m)(hL:Xg m d.1.2=L):(prQ d.2.1 fun n=>Vh L (Xg m n))=d.1.1:=by
 obtain⟨s1,s2,s3,s4⟩:=XL h.pl h.ld
 rw[prQ_at h.pl s1 (φ:=fun n=>Vh L (Xg m n)) fun u hu=> ?_]
 ·show Vh L (Xg m d.1.2)*d.1.1=_
  unfold Vh;rw[if_pos hL];grind
 ·rcases s4 u hu with e|e
  ·exact .inl e
  ·right
   have:=e.add hm (h.pl.q8 u hu) s2
   rw[hL]at this
   show Vh L (Xg m u.2)=0
   unfold Vh;rw[if_neg this.ne]
theorem spd_mem (h:DvI o w a fs d)(k:DvI o w a fs e):∀x∈spD d e,InW w (wtN w (lcD d e)) x.2/\LtO o x.2 (lcD d e):=by
 intro x hx
 have m1:=VU (lc8 h k) h.s8
 have m2:=VU (lc8 h k) k.s8
 have hp:=spd_pl h k
 have hle:InW w (wtN w (lcD d e)) x.2/\LeO o x.2 (lcD d e):=by
  rcases U4 _ (Zg _) (q8_timesQ m1 h.pl.q8) (pl_neg (pl_times (inv_ne k.s0) m2 k.pl)).q8 hx with⟨y,hy,e⟩|⟨y,hy,e⟩
  ·unfold Wr at hy
   obtain⟨u,hu,rfl⟩:=ZU.1 hy
   rw[<-e];exact prod_le h m1 (lc_add1 h k) u hu
  ·unfold negQ Uk at hy
   obtain⟨y2,hy2,rfl⟩:=ZU.1 hy
   unfold Wr at hy2
   obtain⟨u,hu,rfl⟩:=ZU.1 hy2
   rw[<-e];exact prod_le k m2 (lc_add2 h k) u hu
 refine⟨hle.1,hle.2.resolve_left fun e=> ?_⟩
 have hc:=hp.nzs.coefAt x hx
 rw[coef_eq,e,spd_eq _ h k,prQ_lead h m1 (lc_add1 h k),prQ_lead k m2 (lc_add2 h k),Rat.inv_mul_cancel _ h.s0,Rat.inv_mul_cancel _ k.s0]at hc
 exact hp.dc.nz x hx (by rw[<-hc];grind)
theorem over_lead (h:DvI o w a fs d):∃E:Nat,0<E/\E<=a/\∀u∈d.2.1,∃z:Int,d.1.1⁻¹*u.1*(E:Rat)=(z:Rat)/\z.natAbs<=a:=by
 obtain⟨s1,s2,s3,s4⟩:=XL h.pl h.ld
 obtain⟨q,q1,q2,q3⟩:=h.cd
 obtain⟨ys,ys1,ys2⟩:=q3 d.1 s1
 have hq0:(q:Rat)≠0:=by
  intro h
  have :q=0:=by exact_mod_cast h
  omega
 have hys:ys≠0:=by
  intro h
  rw[h]at ys1
  have :d.1.1*(q:Rat)=0:=ys1
  exact(Rat.mul_eq_zero.1 this).elim s3 hq0
 obtain⟨e,he1,he2⟩:=sgn_cast ys hys
 refine⟨ys.natAbs,Int.natAbs_pos.2 hys,ys2,fun u hu=> ?_⟩
 obtain⟨y,y1,y2⟩:=q3 u hu
 refine⟨e*y,?_,by rw[Yj,he2,Z6];exact y2⟩
 rw[he1,Yo,Yo,<-ys1,<-y1]
 have hi:d.1.1⁻¹*d.1.1=1:=Rat.inv_mul_cancel _ s3
 have :d.1.1⁻¹*u.1*((e:Rat)*(d.1.1*(q:Rat)))=(d.1.1⁻¹*d.1.1)*((e:Rat)*(u.1*(q:Rat))):=by grind
 rw[this,hi,Rat.one_mul]
theorem prQ_atm' {q:List Qm}(hq:Nz q){m n:List Nat}(hm:L8 m):prQ q (fun k=>Vh n (Xg m k))=0\/∃u∈q,prQ q (fun k=>Vh n (Xg m k))=u.1:=by
 have e:prQ q (fun k=>Vh n (Xg m k))=prQ q (fun k=>Vh n (Xg k m)):=Ua fun u _=>by rw[XG]
 rw[e]
 rcases prQ_atm hq (m:=m) (n:=n) hm with h|⟨u,hu,-,h⟩
 ·exact .inl h
 ·exact .inr ⟨u,hu,h⟩
theorem spd_cf (h:DvI o w a fs d)(k:DvI o w a fs e):Cf (2*a*a) (spD d e):=by
 have m1:=VU (lc8 h k) h.s8
 have m2:=VU (lc8 h k) k.s8
 obtain⟨E,e1,e2,e3⟩:=over_lead h
 obtain⟨F,f1,f2,f3⟩:=over_lead k
 have hEF:E*F<=a*a:=YD e2 f2
 refine⟨E*F,Nat.mul_pos e1 f1,by rw[Ye];omega,fun x hx=> ?_⟩
 have hc:=(spd_pl h k).nzs.coefAt x hx
 rw[coef_eq,spd_eq _ h k]at hc
 have p1:∃z:Int,d.1.1⁻¹*(prQ d.2.1 fun n=>Vh x.2 (Xg (Wv (lcD d e) d.1.2) n))*((E*F:Nat):Rat)=(z:Rat)/\z.natAbs<=a*a:=by
  rcases prQ_atm' h.pl.nzs (m:=Wv (lcD d e) d.1.2) (n:=x.2) m1 with e|⟨u,hu,e⟩
  ·exact⟨0,by rw[e,Rat.mul_zero,Rat.zero_mul];rfl,Zr _⟩
  ·obtain⟨z,z1,z2⟩:=e3 u hu
   refine⟨z*F,by rw[e,Rat.natCast_mul,<-Rat.mul_assoc,z1,Yo,Rat.intCast_natCast],?_⟩
   rw[Yj,ZN]
   exact YD z2 f2
 have p2:∃z:Int,e.1.1⁻¹*(prQ e.2.1 fun n=>Vh x.2 (Xg (Wv (lcD d e) e.1.2) n))*((E*F:Nat):Rat)=(z:Rat)/\z.natAbs<=a*a:=by
  rcases prQ_atm' k.pl.nzs (m:=Wv (lcD d e) e.1.2) (n:=x.2) m2 with e|⟨u,hu,e⟩
  ·exact⟨0,by rw[e,Rat.mul_zero,Rat.zero_mul];rfl,Zr _⟩
  ·obtain⟨z,z1,z2⟩:=f3 u hu
   refine⟨z*E,by rw[e,ZD,Rat.natCast_mul,<-Rat.mul_assoc,z1,Yo,Rat.intCast_natCast],?_⟩
   rw[Yj,ZN]
   exact YD z2 e2
 obtain⟨z,z1,z2⟩:=p1
 obtain⟨y,y1,y2⟩:=p2
 refine⟨z-y,?_,?_⟩
 ·rw[<-hc,Rat.intCast_sub,<-z1,<-y1];grind
 ·rw[Ye];omega
theorem spd_ok {k:Nat}(hk:k<10000000)(hs:a<4294967296^k)(h8:w.length=8)(hw:∀x∈w,0<x)(hW:wtN w (lcD d e)<=65535)(h:DvI o w a fs d)(g:DvI o w a fs e):SpOk d e:=by
 have m1:=VU (lc8 h g) h.s8
 have m2:=VU (lc8 h g) g.s8
 have szf:∀{d:Dv},DvI o w a fs d->∀u∈d.2.1,Sq u.1:=fun{d} h u hu=>by
  obtain⟨q,q1,q2,q3⟩:=h.cd
  obtain⟨y,y1,y2⟩:=q3 u hu
  exact Sq.le hk q1 y1 q2 y2 hs
 have szr:∀{d:Dv} (m:List Nat),DvI o w a fs d->Sz (Wr d.1.1⁻¹ m d.2.1):=fun{d} m h t ht=>by
  unfold Wr at ht
  obtain⟨u,hu,rfl⟩:=ZU.1 ht
  obtain⟨E,e1,e2,e3⟩:=over_lead h
  obtain⟨z,z1,z2⟩:=e3 u hu
  exact Sq.le hk e1 z1 e2 z2 hs
 have s1:=(XL h.pl h.ld).1
 have t1:=(XL g.pl g.ld).1
 exact⟨szf h _ s1,h.s0,szf g _ t1,g.s0,szf h,szf g,fun u hu=>(prod_le h m1 (lc_add1 h g) u hu).1.ok h8 hw hW,fun u hu=>(prod_le g m2 (lc_add2 h g) u hu).1.ok h8 hw hW,szr _ h,szr _ g,by have:=h.len;omega,by have:=g.len;omega⟩
def lsD (o:List (List Int))(w:List Nat)(d e:Dv):List (List Nat):=(Ty o (allM w (wtN w (lcD d e)))).filter fun n=>decide (LtO o n (lcD d e))
theorem lsD_I (h8:w.length=8)(hw:∀x∈w,0<x)(h:DvI o w a fs d)(g:DvI o w a fs e):LsI o w (wtN w (lcD d e)) (lsD o w d e):=by
 have hin:∀n∈allM w (wtN w (lcD d e)),InW w (wtN w (lcD d e)) n:=fun n hn=>by
  obtain⟨a,b⟩:=allM_mem hn hw
  exact⟨a.trans h8,b⟩
 refine⟨(sortM_dc fun n hn=>(hin n hn).1).sublist List.filter_sublist,fun n hn=>hin n (WZ.1 (Yu.1 hn).1),fun δ hδ n hn hlt=> ?_⟩
 obtain⟨x1,x2⟩:=Yu.1 hδ
 refine Yu.2 ⟨WZ.2 (mem_allM (h8.trans hn.1.symm) hw hn.2),?_⟩
 exact decide_eq_true (hlt.trans hn.1 (hin δ (WZ.1 x1)).1 (lc8 h g) (of_decide_eq_true x2))
theorem lsD_mem (h8:w.length=8)(hw:∀x∈w,0<x){n:List Nat}(hn:InW w (wtN w (lcD d e)) n)(hlt:LtO o n (lcD d e)):n∈lsD o w d e:=
 Yu.2 ⟨WZ.2 (mem_allM (h8.trans hn.1.symm) hw hn.2),decide_eq_true hlt⟩
theorem lsD_sub {n:List Nat}(h8:w.length=8)(hw:∀x∈w,0<x)(h:n∈lsD o w d e):InW w (wtN w (lcD d e)) n/\LtO o n (lcD d e):=by
 obtain⟨x1,x2⟩:=Yu.1 h
 obtain⟨a,b⟩:=allM_mem (WZ.1 x1) hw
 exact⟨⟨a.trans h8,b⟩,of_decide_eq_true x2⟩
theorem lsD_len:(lsD o w d e).length<=numM w (wtN w (lcD d e)):=
 Zx (List.length_filter_le ..) (Zx (sortM_len _) (allM_len ..))
theorem spd_rep (h:DvI o w a fs d)(g:DvI o w a fs e){P:List Nat->Prop}(hP:P (lcD d e)):Rep o fs P fun φ=>prQ (spD d e) φ:=by
 have m1:=VU (lc8 h g) h.s8
 have m2:=VU (lc8 h g) g.s8
 have r1:Rep o fs P _:=Rep.add (c:=d.1.1⁻¹) (P:=P) (v:=fun φ=>d.1.1⁻¹*prQ d.2.1 fun n=>φ (Xg (Wv (lcD d e) d.1.2) n)) (w:=fun _=>0) h.mem h.ld m1 (by rw[lc_add1 h g];exact hP) (.zero fun _=>rfl) fun φ=>by grind
 refine Rep.add (c:= -e.1.1⁻¹) g.mem g.ld m2 (by rw[lc_add2 h g];exact hP) r1 fun φ=> ?_
 rw[spd_eq _ h g];grind
theorem sb_of_coprime (h:DvI o w a fs d)(g:DvI o w a fs e)(hg:TJ d.1.2 e.1.2=Sc):SB o w fs d.2.1 e.2.1 d.1 e.1:=
 SB.coprime h.mem g.mem h.ld g.ld h.perm g.perm h.po g.po h.wl g.wl fun x hx=>by
  rw[hg]at hx
  simp only[Zj,ZH,or_false]at hx
  omega
end Go.Proofs.YtefpgecinlekpaaGreat
namespace Go.Proofs.YtefpgecinlekpaaGreat
open Go.Ev Go.Num
structure OrdW (o:List (List Int))(w:List Nat):Prop where
 o8:V9 o
 ol:o.length<1000000
 w8:w.length=8
 wp:∀a∈w,0<a
 ok:∀m n,Dg3 3 m->Dg3 3 n->LtO o m n->wtN w m<=wtN w n
 le:∀d m,Dg3 d m->wtN w m<=16*d
 num:numM w 96<=17000
abbrev K0:Nat:=2700
theorem size0 {n:Nat}(hn:n<=17000):288*24^n*12<4294967296^K0:=by
 have h1:24^n<=32^n:=Nat.pow_le_pow_left (by omega) n
 have h2:(32:Nat)^n=2^(5*n):=by rw[show(32:Nat)=2^5 from rfl,<-Nat.pow_mul]
 have h3:(4294967296:Nat)^K0=2^(32*K0):=by rw[show(4294967296:Nat)=2^32 from rfl,<-Nat.pow_mul]
 rw[h3]
 have h4:288*24^n*12<=3456*2^(5*n):=by
  rw[h2]at h1
  have:=YB 3456 h1
  have e:288*24^n*12=3456*24^n:=by
   rw[ZD (288*24^n) 12,<-Ye]
  rw[e];exact this
 have h5:3456*2^(5*n)<2^12*2^(5*n):=Z7 (by decide) (Nat.pow_pos (by decide))
 rw[<-Nat.pow_add]at h5
 have h6:(2:Nat)^(12+5*n)<=2^(32*K0):=Nat.pow_le_pow_right (by decide) (by unfold K0;omega)
 omega
variable {o:List (List Int)}{w:List Nat}
theorem dvi_of {c:Nat}(hc:1<=c)(W:OrdW o w){fs:List (List Qm)}{f:List Qm}(hf:f∈fs){n:Nat}(hn:n<50000)(g:Gen 3 c n f){s:Qm}{us:List Qm}(e:WN o f=s::us)(i:Nat):DvI o w c fs (s,f,us,i):=by
 have hp:=VC o f
 rw[e]at hp
 have hpo:=sortQ_po (o:=o) g.pl.nzs
 rw[e]at hpo
 have hs:s∈f:=hp.mem_iff.1 (Zh ..)
 refine⟨hf,g.pl,lead_sort g.pl e,hpo,hp,⟨1,by omega,hc,fun u hu=> ?_⟩,fun u hu=> ?_,by have:=g.len;show f.length<50000;omega⟩
 ·obtain⟨z,z1,z2⟩:=g.cf u hu
  exact⟨z,by rw[z1];exact Rat.mul_one _,z2⟩
 ·rcases leadO_le g.pl (lead_sort g.pl e) u hu with h|h
  ·show wtN w u.2<=wtN w s.2;rw[h];exact Zg _
  ·exact W.ok _ _ (g.deg u hu) (g.deg s hs) h
theorem dvs_of {c n:Nat}(hc:1<=c)(hn:n<50000)(W:OrdW o w){fs:List (List Qm)}:∀(l:List (List Qm)) (i:Nat),(∀f∈l,f∈fs/\Gen 3 c n f)->∀d∈V6 o l i,DvI o w c fs d/\d.2.1∈l
 |[],_,_,d,hd=>by cases hd
 |f::l,i,h,d,hd=>by
  obtain⟨h1,h2⟩:=h f (Zh ..)
  have ih:=dvs_of hc hn W l (i+1) fun g hg=>h g (Zc _ hg)
  unfold V6 at hd
  split at hd
  ·obtain⟨a,b⟩:=ih d hd
   exact⟨a,Zc _ b⟩
  ·rename_i t us e
   rcases Zj.1 hd with rfl|hd
   ·exact⟨dvi_of hc W h1 hn h2 e i,Zh ..⟩
   ·obtain⟨a,b⟩:=ih d hd
    exact⟨a,Zc _ b⟩
theorem OrdW.cx {c n k:Nat}(hc:1<=c)(hn:n<50000)(hk:k<10000000)(W:OrdW o w){V:Nat}(hV:V<=65535){fs:List (List Qm)}(h:∀f∈fs,Gen 3 c n f):Cx o w V c k fs (V6 o fs 0):=
 ⟨W.w8,W.wp,hV,fun d hd=>(dvs_of hc hn W fs 0 (fun f hf=>⟨hf,h f hf⟩) d hd).1,hc,hk,fun f hf=>(h f hf).pl⟩
theorem wtN_lcm:∀(w s t:List Nat),wtN w (XR s t)<=wtN w s+wtN w t
 |[],_,_=>by simp[wtN]
 |_::_,[],_=>by simp[wtN,XR]
 |_::_,_::_,[]=>by simp[wtN,XR]
 |a::w,x::s,y::t=>by
  have ih:=wtN_lcm w s t
  unfold XR at ih⊢
  simp only[Zy,wtN]
  have h1:a*max x y<=a*x+a*y:=by
   rw[<-Nat.mul_add];exact YB _ (by omega)
  omega
structure PairI (o:List (List Int))(w:List Nat)(fs:List (List Qm))(d e:Dv):Prop where
 hd:DvI o w 12 fs d
 he:DvI o w 12 fs e
 wl:wtN w (lcD d e)<=96
theorem pair_of (W:OrdW o w){fs:List (List Qm)}{d e:Dv}(hd:DvI o w 12 fs d)(he:DvI o w 12 fs e)(gd:∀t∈d.2.1,Dg3 3 t.2)(ge:∀t∈e.2.1,Dg3 3 t.2):PairI o w fs d e:=by
 refine⟨hd,he,?_⟩
 have h1:=W.le 3 _ (gd _ (XL hd.pl hd.ld).1)
 have h2:=W.le 3 _ (ge _ (XL he.pl he.ld).1)
 have:=wtN_lcm w d.1.2 e.1.2
 show wtN w (XR d.1.2 e.1.2)<=96
 omega
theorem PairI.ok (W:OrdW o w){fs:List (List Qm)}{d e:Dv}(h:PairI o w fs d e):SpOk d e:=
 spd_ok (k:=K0) (by decide) (by
  have:=size0 (n:=0) (by omega)
  omega) W.w8 W.wp (by have:=h.wl;omega) h.hd h.he
theorem PairI.len (W:OrdW o w){fs:List (List Qm)}{d e:Dv}(h:PairI o w fs d e):(lsD o w d e).length<=17000:=
 Zx lsD_len (Zx (numM_mono w h.wl) W.num)
theorem PairI.size (W:OrdW o w){fs:List (List Qm)}{d e:Dv}(h:PairI o w fs d e):2*12*12*(2*12)^(lsD o w d e).length*12<4294967296^K0:=size0 (h.len W)
theorem PairI.po {fs:List (List Qm)}{d e:Dv}(h:PairI o w fs d e):PO o (WN o (spD d e)):=sortQ_po (spd_pl h.hd h.he).nzs
theorem PairI.mem (W:OrdW o w){fs:List (List Qm)}{d e:Dv}(h:PairI o w fs d e):∀u∈WN o (spD d e),u.2∈lsD o w d e:=fun u hu=>by
 have hu':=(VC o _).mem_iff.1 hu
 obtain⟨h1,h2⟩:=spd_mem h.hd h.he u hu'
 exact lsD_mem W.w8 W.wp h1 h2
theorem PairI.cf {fs:List (List Qm)}{d e:Dv}(h:PairI o w fs d e):Cf (2*12*12) (WN o (spD d e)):=(spd_cf h.hd h.he).sub fun t ht=>(VC o _).mem_iff.1 ht
theorem PairI.spl (W:OrdW o w){fs:List (List Qm)}{d e:Dv}(h:PairI o w fs d e):(spD d e).length<=17000:=by
 have h1:=PO.len_le (lsD_I W.w8 W.wp h.hd h.he).dc (fun n hn=>(lsD_sub W.w8 W.wp hn).1.1) h.po (h.mem W)
 rw[sortQ_len]at h1
 exact Zx h1 (h.len W)
theorem PairI.sz (W:OrdW o w){fs:List (List Qm)}{d e:Dv}(h:PairI o w fs d e):Sz (spD d e):=
 cf_sz (k:=K0) (by decide) (spd_cf h.hd h.he) (by
  have:=size0 (n:=0) (by omega)
  omega)
theorem distQ_pl {f:List Qm}(h:Pl f):V1 f:=h.nzs.nd
theorem pair_rest (W:OrdW o w){fs:List (List Qm)}(hg:∀f∈fs,Gen 3 12 4 f)(hsb:∀f∈fs,∀g∈fs,f≠g->∀s t,Ww o f=some s->Ww o g=some t->SB o w fs f g s t){d e:Dv}(h:PairI o w fs d e)(hcov:∀f∈fs,∀s,Ww o f=some s->∃d∈V6 o fs 0,d.1=s):
  ∃n tq,DivP o Sq SzL Xx (V6 o fs 0) false n (WN o (spD d e)) (List.replicate (V6 o fs 0).length []) [] tq []/\(∀q∈tq,V1 q/\q.length<60000)/\tq.length=(V6 o fs 0).length:=by
 have cx:=W.cx (c:=12) (n:=4) (k:=K0) (by omega) (by omega) (by decide) (V:=wtN w (lcD d e)) (by have:=h.wl;omega) hg
 have hlen:=h.len W
 have hq0:QI o (V6 o fs 0) (lsD o w d e) (List.replicate (V6 o fs 0).length []):=by
  refine⟨by simp,fun j q d' h1 h2=> ?_⟩
  have hm:=ZE h1
  obtain rfl:=(List.mem_replicate.1 hm).2
  exact⟨Nz.nil,Sz.nil,(fun _ h=>by cases h),by simp;omega⟩
 have hr0:RI o (V6 o fs 0) (lsD o w d e) []:=⟨Nz.nil,Sz.nil,(fun _ h=>by cases h),by simp;omega,(fun _ h=>by cases h)⟩
 obtain⟨n,tq,tr,k1,k2,k3,k4,k5⟩:=run_full cx (lsD o w d e) (lsD_I W.w8 W.wp h.hd h.he) (by omega) h.po (h.mem W) h.cf (by omega) (h.size W) hq0 hr0
 have hgb:=gb_of_sb (W:=wtN w (lcD d e)) W.w8 W.wp cx.pls hsb
 have htr:tr=[]:=by
  refine gb_rem hgb k3.nzs ?_ fun u hu f hf s hs=> ?_
  ·have r1:=spd_rep h.hd h.he (P:=fun n=>L8 n/\wtN w n<=wtN w (lcD d e)) ⟨lc8 h.hd h.he,Zg _⟩
   have r2:=(k4.mono (Q:=fun n=>L8 n/\wtN w n<=wtN w (lcD d e)) fun n hn=>(lsD_sub W.w8 W.wp hn).1).smul (-1)
   refine(r1.plus r2).congr fun φ=> ?_
   rw[prQ_sort]
   simp only[prQ];grind
  ·obtain⟨d',hd',e'⟩:=hcov f hf s hs
   have:=k3.nd u hu d' hd'
   rwa[e']at this
 subst htr
 refine⟨n,tq,k1,fun q hq=> ?_,k2.len⟩
 obtain⟨j,hj⟩:=Z3.1 hq
 have hjl:j<(V6 o fs 0).length:=by rw[<-k2.len];exact(Ze.1 hj).1
 obtain⟨m1,m2,m3,m4⟩:=k2.at_ j q _ hj (Zf hjl)
 exact⟨m1.nd,by simp at m4;omega⟩
end Go.Proofs.YtefpgecinlekpaaGreat
namespace Go.Proofs.YtefpgecinlekpaaGreat
open Go.Ev Go.Num
def oGr:List (List Int):=[[1,1,1,1,1,1,1,1]]
def oRev:List (List Int):=[[1,1,1,1,1,1,1,1],[0,0,0,0,0,0,0,-1],[0,0,0,0,0,0,-1,0],[0,0,0,0,0,-1,0,0],[0,0,0,0,-1,0,0,0],[0,0,0,-1,0,0,0,0],[0,0,-1,0,0,0,0,0],[0,-1,0,0,0,0,0,0]]
def oE1:List (List Int):=[1,0,0,0,0,0,0,0]::oRev
def oE2:List (List Int):=[0,1,0,0,0,0,0,0]::oRev
def wLx:List Nat:=[16,4,1,1000,1000,1000,1000,1000]
def wGr:List Nat:=[16,16,16,1000,1000,1000,1000,1000]
def wE1:List Nat:=[15,3,3,1000,1000,1000,1000,1000]
def wE2:List Nat:=[3,15,3,1000,1000,1000,1000,1000]
theorem row8_dec {r:List Int}(h:(r.length==8&&r.all fun w=>decide (-1000<=w)&&decide (w<=1000))=true):Row8 r:=by
 rw[Zo,ZS]at h
 refine⟨by simpa using h.1,fun w hw=> ?_⟩
 have:=h.2 w hw
 simpa using this
theorem ord8_dec {o:List (List Int)}(h:(o.all fun r=>r.length==8&&r.all fun w=>decide (-1000<=w)&&decide (w<=1000))=true):V9 o:=fun r hr=>row8_dec (ZS.1 h r hr)
theorem lt_cons {r:List Int}{o:List (List Int)}{m n:List Nat}(h:LtO (r::o) m n):wt r m<wt r n\/(wt r m=wt r n/\LtO o m n):=by
 unfold LtO at h⊢
 simp only[X9]at h
 by_cases h1:wt r n<wt r m
 ·rw[if_pos h1]at h;cases h
 ·rw[if_neg h1]at h
  by_cases h2:wt r m<wt r n
  ·exact .inl h2
  ·rw[if_neg h2]at h
   exact .inr ⟨by omega,h⟩
theorem ltL_cons {a b:Nat}{m n:List Nat}(h:LtO [] (a::m) (b::n)):a<b\/(a=b/\LtO [] m n):=by
 unfold LtO at h⊢
 simp only[X9,XS]at h
 by_cases h1:b<a
 ·rw[if_pos h1]at h;cases h
 ·rw[if_neg h1]at h
  by_cases h2:a<b
  ·exact .inl h2
  ·rw[if_neg h2]at h
   exact .inr ⟨by omega,h⟩
theorem ow_lex:OrdW [] wLx where
 o8:=fun _ h=>by cases h
 ol:=by decide
 w8:=rfl
 wp:=by decide
 ok:=by
  rintro m n ⟨a,b,c,rfl,h⟩ ⟨x,y,z,rfl,k⟩ hlt
  simp only[wLx,wtN]
  rcases ltL_cons hlt with h1|⟨h1,hlt⟩
  ·omega
  ·rcases ltL_cons hlt with h2|⟨h2,hlt⟩
   ·omega
   ·rcases ltL_cons hlt with h3|⟨h3,hlt⟩
    ·omega
    ·omega
 le:=by
  rintro d m ⟨a,b,c,rfl,h⟩
  simp only[wLx,wtN];omega
 num:=by decide
theorem ow_gr:OrdW oGr wGr where
 o8:=ord8_dec (by decide)
 ol:=by decide
 w8:=rfl
 wp:=by decide
 ok:=by
  rintro m n ⟨a,b,c,rfl,h⟩ ⟨x,y,z,rfl,k⟩ hlt
  have h1:=lt_cons (o:=[]) hlt
  simp only[wt]at h1
  simp only[wGr,wtN]
  omega
 le:=by
  rintro d m ⟨a,b,c,rfl,h⟩
  simp only[wGr,wtN];omega
 num:=by decide
theorem ow_rev:OrdW oRev wGr where
 o8:=ord8_dec (by decide)
 ol:=by decide
 w8:=rfl
 wp:=by decide
 ok:=by
  rintro m n ⟨a,b,c,rfl,h⟩ ⟨x,y,z,rfl,k⟩ hlt
  have h1:=lt_cons hlt
  simp only[wt]at h1
  simp only[wGr,wtN]
  omega
 le:=by
  rintro d m ⟨a,b,c,rfl,h⟩
  simp only[wGr,wtN];omega
 num:=by decide
theorem ow_e1:OrdW oE1 wE1 where
 o8:=ord8_dec (by decide)
 ol:=by decide
 w8:=rfl
 wp:=by decide
 ok:=by
  rintro m n ⟨a,b,c,rfl,h⟩ ⟨x,y,z,rfl,k⟩ hlt
  simp only[wE1,wtN]
  rcases lt_cons hlt with h1|⟨h1,hlt⟩
  ·simp only[wt]at h1;omega
  ·have h2:=lt_cons hlt
   simp only[wt]at h1 h2;omega
 le:=by
  rintro d m ⟨a,b,c,rfl,h⟩
  simp only[wE1,wtN];omega
 num:=by decide
theorem ow_e2:OrdW oE2 wE2 where
 o8:=ord8_dec (by decide)
 ol:=by decide
 w8:=rfl
 wp:=by decide
 ok:=by
  rintro m n ⟨a,b,c,rfl,h⟩ ⟨x,y,z,rfl,k⟩ hlt
  simp only[wE2,wtN]
  rcases lt_cons hlt with h1|⟨h1,hlt⟩
  ·simp only[wt]at h1;omega
  ·have h2:=lt_cons hlt
   simp only[wt]at h1 h2;omega
 le:=by
  rintro d m ⟨a,b,c,rfl,h⟩
  simp only[wE2,wtN];omega
 num:=by decide
inductive OrdL:List (List Int)->List Nat->Prop
 |lex:OrdL [] wLx
 |gr:OrdL oGr wGr
 |rev:OrdL oRev wGr
 |e1:OrdL oE1 wE1
 |e2:OrdL oE2 wE2
theorem OrdL.ow {o:List (List Int)}{w:List Nat}(h:OrdL o w):OrdW o w:=by
 cases h
 ·exact ow_lex
 ·exact ow_gr
 ·exact ow_rev
 ·exact ow_e1
 ·exact ow_e2
theorem pl_zero {f:List Qm}(h:Pl f)(e:∀φ,prQ f φ=0):f=[]:=DcQ.ext h.dc .nil fun m=>by rw[coef_eq,e,coef_nil]
theorem polyQ_nil {es:List (List PL)}(h:XF es []):es=[]:=by cases h;rfl
theorem fold_zero:∀(m:List Nat) (k:Nat),m.foldl (·+ ·) k=0↔k=0/\∀x∈m,x=0
 |[],k=>by simp
 |a::m,k=>by
  rw[List.foldl_cons,fold_zero m (k+a)]
  constructor
  ·rintro ⟨h1,h2⟩
   exact⟨by omega,fun x hx=>by rcases Zj.1 hx with rfl|hx;omega;exact h2 x hx⟩
  ·rintro ⟨h1,h2⟩
   exact⟨by have:=h2 a (Zh ..);omega,fun x hx=>h2 x (Zc _ hx)⟩
theorem zero8 {m:List Nat}(h:m.length=8)(hz:∀x∈m,x=0):m=Sc:=by
 obtain⟨a,b,c,d,e,f,g,i,rfl⟩:=eight h
 simp only[Zj,ZH,or_false,forall_eq_or_imp,forall_eq]at hz
 obtain⟨rfl,rfl,rfl,rfl,rfl,rfl,rfl,rfl⟩:=hz
 rfl
theorem sort_ne {o:List (List Int)}{f:List Qm}(h:f≠[]):∃s us,WN o f=s::us:=by
 cases hq:WN o f with
 |nil=>
  have:=sortQ_len o f
  rw[hq]at this
  exact absurd (Yb this.symm) h
 |cons s us=>exact⟨s,us,rfl⟩
theorem rlead_form {B:Base}(hB:Std B){lp lo:PL}{o:List (List Int)}(so:IsO lo o)(ho:V9 o)(hol:o.length<1000000){ts:List Qm}(hp:PQ lp ts)(hl:ts.length<100000):∃t1 t2 t3 t4 m b,Ret B 29 [.one lp,.one lo] (.tup [.agg (t1::t2::t3::t4::mo m),.one (.bool b)])/\m.length=8/\(b=true->∃s,Ww o ts=some s/\m=s.2/\Xx m)/\(∀s,Ww o ts=some s->b=true/\m=s.2):=by
 obtain⟨c,b,h1,h2⟩:=rleadO_ret hB so ho hol hp hl
 cases hlo:Ww o ts with
 |none=>
  simp only[hlo]at h2
  obtain⟨rfl,rfl⟩:=h2
  exact⟨.bool false,.nilS,.bool false,.nilS,Sc,false,h1,rfl,(fun h=>by cases h),(fun s h=>by cases h)⟩
 |some s=>
  simp only[hlo]at h2
  obtain⟨rfl,h2⟩:=h2
  obtain⟨t1,t2,t3,t4,rfl⟩:=h2.eight
  exact⟨t1,t2,t3,t4,s.2,true,h1,h2.mok8.1,fun _=>⟨s,rfl,rfl,h2.mok8⟩,fun s' h=>by cases h;exact⟨rfl,rfl⟩⟩
theorem law4_ret {B:Base}(hB:StdB B)(h7:Ret B 7 [] (.one (.bool true))){X Z:PL}(hX:RawPoly X)(hZ:RawPoly Z){n:Nat}{lo:PL}{o:List (List Int)}{w:List Nat}(hO:Ret B 10 [.one (.int .u8 (.ofNat n))] (.one lo))(so:IsO lo o)(OL:OrdL o w)(hv:Ret B 57 [.one lo] (.one (.bool true))):
  Ret B 4 [.agg [X],.agg [Z],.one (.int .u8 (.ofNat n))] (.one (.bool true)):=by
 have W:=OL.ow
 have ho:=W.o8
 have hol:=W.ol
 have hS:=hB.toStd
 obtain⟨la,a,ha,pa,ga⟩:=made_ret hS hX (d:=3) (tm:=4) (by omega) (by omega)
 obtain⟨lb,b,hb,pb,gb⟩:=made_ret hS hZ (d:=3) (tm:=4) (by omega) (by omega)
 have l1:=ga.len
 have l2:=gb.len
 have da:=distQ_pl ga.pl
 have db:=distQ_pl gb.pl
 obtain⟨ea,sa,qa⟩:=pa
 obtain⟨eb,sb,qb⟩:=pb
 have pa:PQ la a:=⟨ea,sa,qa⟩
 have pb:PQ lb b:=⟨eb,sb,qb⟩
 by_cases h0:a=[]\/b=[]
 ·have h1:=pspair0_ret hB.toStdO so ho hol hv pa pb da db (by omega) (by omega) h0
  exact law4_zero hS h7 ha hb hO sa sb (by rw[qa.length,qb.length];rcases h0 with rfl|rfl;exact .inl rfl;exact .inr rfl) h1
 ·have na:a≠[]:=fun h=>h0 (.inl h)
  have nb:b≠[]:=fun h=>h0 (.inr h)
  obtain⟨s,us,es⟩:=sort_ne (o:=o) na
  obtain⟨t,vs,et⟩:=sort_ne (o:=o) nb
  have hgen:∀f∈[a,b],Gen 3 12 4 f:=fun f hf=>by
   simp only[Zj,ZH,or_false]at hf
   rcases hf with rfl|rfl
   ·exact ga
   ·exact gb
  have hds:V6 o [a,b] 0=[(s,a,us,0),(t,b,vs,1)]:=by simp only[V6,es,et]
  have hd:DvI o w 12 [a,b] (s,a,us,0):=dvi_of (by omega) W (by simp) (n:=4) (by omega) ga es 0
  have he:DvI o w 12 [a,b] (t,b,vs,1):=dvi_of (by omega) W (by simp) (n:=4) (by omega) gb et 1
  have P:=pair_of W hd he ga.deg gb.deg
  have P':=pair_of W he hd gb.deg ga.deg
  have Q:=pair_of W hd hd ga.deg ga.deg
  have ok:=P.ok W
  have ok':=P'.ok W
  have okq:=Q.ok W
  obtain⟨e1,r1,k1⟩:=pspair_ret hB.toStdO so ho hol hv pa pb da db (by omega) (by omega) es et ok.ht ok.t0 ok.hs ok.s0 ok.zt ok.zs ok.ot ok.os ok.rt ok.rs
  obtain⟨e2,r2,k2⟩:=pspair_ret hB.toStdO so ho hol hv pb pa db da (by omega) (by omega) et es ok'.ht ok'.t0 ok'.hs ok'.s0 ok'.zt ok'.zs ok'.ot ok'.os ok'.rt ok'.rs
  have z1:Sz (VV s a t b):=P.sz W
  have z2:Sz (VV t b s a):=P'.sz W
  have n1:(VV s a t b).length<=17000:=P.spl W
  have n2:(VV t b s a).length<=17000:=P'.spl W
  have p1:PQ (.lst e1) (VV s a t b):=⟨_,.lst,k1⟩
  have p2:PQ (.lst e2) (VV t b s a):=⟨_,.lst,k2⟩
  have pl1:Pl (VV s a t b):=spd_pl hd he
  have pl2:Pl (VV t b s a):=spd_pl he hd
  have hsum:VY (VV s a t b) (VV t b s a)=[]:=pl_zero (pl1.add pl2) fun φ=>by
   rw[prQ_add φ _ _ _ (Zg _) pl1.q8 pl2.q8]
   have x1:=spd_eq φ hd he
   have x2:=spd_eq φ he hd
   simp only[lcD]at x1 x2
   rw[lcmM_comm t.2 s.2]at x2
   show prQ (VV s a t b) φ+prQ (VV t b s a) φ=0
   rw[x1,x2];grind
  obtain⟨e3,r3,k3⟩:=raddq_ret hS p1 p2 z1 z2 (by omega) (by omega)
  rw[hsum]at k3
  obtain rfl:=polyQ_nil k3
  have hV:=r6valid_ret hS p1 z1 pl1.dc (by omega)
  have hN:=rsame_nil hS (p:=.lst []) (q:=.nilS) .lst .nil
  have ls:Ww o a=some s:=lead_sort ga.pl es
  have lt:Ww o b=some t:=lead_sort gb.pl et
  obtain⟨u1,u2,u3,u4,mu,bu,ru,mu8,-,gu⟩:=rlead_form hS so ho hol pa (by omega)
  obtain⟨rfl,rfl⟩:=gu s ls
  obtain⟨v1,v2,v3,v4,mv,bv,rv,mv8,-,gv⟩:=rlead_form hS so ho hol pb (by omega)
  obtain⟨rfl,rfl⟩:=gv t lt
  obtain⟨t1,t2,t3,t4,mt,bt,rt,mt8,gt,-⟩:=rlead_form hS so ho hol p1 (by omega)
  have ms:Xx s.2:=dg3_ok (by omega) (ga.deg s (XL ga.pl ls).1)
  have mt':Xx t.2:=dg3_ok (by omega) (gb.deg t (XL gb.pl lt).1)
  have hL:=rlcm_ret hS ms mt'
  have mL:=lcmM_mok ms mt'
  have hG:=rgcdM_ret hS ms mt'
  have mG:Xx (TJ s.2 t.2):=by
   refine⟨by simp[TJ,mu8,mv8],?_⟩
   intro x hx
   unfold TJ at hx
   obtain⟨i,hi⟩:=Z3.1 hx
   rw[List.getElem?_zipWith]at hi
   split at hi
   ·rename_i y z hy hz
    cases hi
    have:=ms.2 y (ZE hy)
    omega
   ·cases hi
  have hD:=degree_ret hS mG
  have hc:bt=true->Ret B 31 [.one lo,.agg (mo mt),.agg (mo (XR s.2 t.2))] (.one (.int .i64 (.negSucc 0))):=fun hb=>by
   obtain⟨top,g1,g2,g3⟩:=gt hb
   obtain⟨x1,x2⟩:=spd_mem hd he top (XL pl1 g1).1
   have:=rcmpO_ret hS so ho g3 mL hol
   rw[g2,Tv.2 x2,<-g2]at this
   exact this
  have F:L4 B X Z la lb lo n ea eb e1 e2 u1 u2 u3 u4 v1 v2 v3 v4 t1 t2 t3 t4 s.2 t.2 (XR s.2 t.2) mt (TJ s.2 t.2) bt ((TJ s.2 t.2).foldl (·+ ·) 0):=
   ⟨h7,ha,hb,hO,sa,sb,fun h=>na (Yb (by rw[<-qa.length];exact h)),fun h=>nb (Yb (by rw[<-qb.length];exact h)),r1,r2,hV,r3,hN,ru,rv,mu8,mv8,mL.1,mt8,mG.1,hL,rt,hc,hG,hD⟩
  have hfs:PQs [la,lb] [a,b]:=.cons pa (.cons pb .nil)
  have hdist:∀f∈[a,b],V1 f/\f.length<60000:=fun f hf=>by
   have:=hgen f hf
   exact⟨distQ_pl this.pl,by have:=this.len;omega⟩
  by_cases hg:(TJ s.2 t.2).foldl (·+ ·) 0=0
  ·have hz:=zero8 mG.1 ((fold_zero _ 0).1 hg).2
   have hI:Ret B 20 [.one (.lst (X3 [la,lb])),.one lo] (.one (.bool true)):=
    pisBasis_ret hB so ho hol hv .lst hfs hdist (by simp) (by rw[hds];simp) (by rw[hds];exact .skip rfl rfl hz .nil)
   have hsb:∀f∈[a,b],∀g∈[a,b],f≠g->∀s t,Ww o f=some s->Ww o g=some t->SB o w [a,b] f g s t:=fun f hf g hg hne s' t' h1 h2=>by
    have sb1:=sb_of_coprime hd he hz
    simp only[Zj,ZH,or_false]at hf hg
    rcases hf with rfl|rfl<;>rcases hg with rfl|rfl
    ·exact absurd rfl hne
    ·rw[ls]at h1;rw[lt]at h2;cases h1;cases h2;exact sb1
    ·rw[lt]at h1;rw[ls]at h2;cases h1;cases h2;exact sb1.sym
    ·exact absurd rfl hne
   obtain⟨m,tq,d1,d2,d3⟩:=pair_rest W hgen hsb P fun f hf s' h1=>by
    rw[hds]
    simp only[Zj,ZH,or_false]at hf
    rcases hf with rfl|rfl
    ·rw[ls]at h1;cases h1;exact⟨_,Zh ..,rfl⟩
    ·rw[lt]at h1;cases h1;exact⟨_,Zc _ (Zh ..),rfl⟩
   obtain⟨lq,rr,x1,x2,es',x3,x4⟩:=pDivide_ret hB.toStdO so ho hol hv (L:=.lst (X3 [la,lb])) .lst hfs hdist (by simp) p1 (distQ_pl pl1) (by omega) (by rw[hds];simp) (by rw[hds];simp) d1 d2 d3 (by simp[V1]) (by simp)
   cases x4
   exact law4_co hS F hg hI (rest_ret hS x1) x3
  ·obtain⟨e4,r4,k4⟩:=pspair_ret hB.toStdO so ho hol hv pa pa da da (by omega) (by omega) es es okq.ht okq.t0 okq.hs okq.s0 okq.zt okq.zs okq.ot okq.os okq.rt okq.rs
   have hsq:VV s a s a=[]:=pl_zero (spd_pl hd hd) fun φ=>by
    have:=spd_eq φ hd hd
    rw[this];grind
   rw[hsq]at k4
   obtain rfl:=polyQ_nil k4
   exact law4_no hS F hg r4
end Go.Proofs.YtefpgecinlekpaaGreat
