/- Orders of monomials and sums of products: plain facts. -/
import Derived.Test.YtefpgecinlekpaaGreatQDvdB
namespace Go.Num
open Go.Ev
theorem cmpOcases:∀(o:List (List Int)) (m n:List Nat),Wd o m n=.ofNat 1\/Wd o m n=.negSucc 0\/Wd o m n=.ofNat 0:=Go.Proofs.YtefpgecinlekpaaGreat.Vm
def LtO (o:List (List Int))(m n:List Nat):Prop:=Wd o n m=.ofNat 1
instance (o:List (List Int))(m n:List Nat):Decidable (LtO o m n):=by unfold LtO;infer_instance
abbrev L8 (m:List Nat):Prop:=m.length=8
theorem LtO.trans {o:List (List Int)}{l m n:List Nat}(hl:L8 l)(hm:L8 m)(hn:L8 n)(h1:LtO o l m)(h2:LtO o m n):LtO o l n:=
 Go.Proofs.YtefpgecinlekpaaGreat.cmpO_trans (hn.trans hm.symm) (hm.trans hl.symm) h2 h1
theorem LtO.irr {o:List (List Int)}{m:List Nat}:¬LtO o m m:=by
 unfold LtO;rw[cmpO_self];decide
theorem LtO.tri (o:List (List Int)){m n:List Nat}(hm:L8 m)(hn:L8 n):LtO o m n\/m=n\/LtO o n m:=by
 rcases cmpOcases o n m with h|h|h
 ·exact .inl h
 ·exact .inr (.inr (Go.Proofs.YtefpgecinlekpaaGreat.SL.1 h))
 ·exact .inr (.inl (Go.Proofs.YtefpgecinlekpaaGreat.cmpO_zero (hn.trans hm.symm) h).symm)
theorem LtO.ne {o:List (List Int)}{m n:List Nat}(h:LtO o m n):m≠n:=fun e=>LtO.irr (e▸h)
theorem LtO.asymm {o:List (List Int)}{m n:List Nat}(hm:L8 m)(hn:L8 n)(h:LtO o m n):¬LtO o n m:=fun k=>LtO.irr (LtO.trans hm hn hm h k)
theorem XE (m n:List Nat):Xh m n=Xh n m:=by
 unfold Xh;rw[List.zipWith_comm];congr;funext a b;exact YI ..
theorem UT:∀(a b c:List Nat),Xh (Xh a b) c=Xh a (Xh b c)
 |[],_,_=>by simp[Xh]
 |_::_,[],_=>by simp[Xh]
 |_::_,_::_,[]=>by simp[Xh]
 |x::a,y::b,z::c=>by
  have ih:=UT a b c
  unfold Xh at ih⊢
  simp only[ZG,ih,Nat.add_assoc]
theorem Tn {m n:List Nat}(hm:L8 m)(hn:L8 n):L8 (Xh m n):=by simp[L8,Xh,hm,hn]
theorem VZ {m n:List Nat}(hm:L8 m)(hn:L8 n):L8 (Wv m n):=by simp[L8,Wv,hm,hn]
theorem lcmM_8 {m n:List Nat}(hm:L8 m)(hn:L8 n):L8 (X2 m n):=by simp[L8,X2,hm,hn]
theorem Ti:∀{a b c:List Nat},a.length=b.length->a.length=c.length->Xh a b=Xh a c->b=c
 |[],[],[],_,_,_=>rfl
 |[],[],_::_,_,h,_=>by simp at h
 |[],_::_,_,h,_,_=>by simp at h
 |_::_,[],_,h,_,_=>by simp at h
 |_::_,_::_,[],_,h,_=>by simp at h
 |x::a,y::b,z::c,h1,h2,h=>by
  unfold Xh at h
  simp only[ZG,ZI]at h
  rw[show y=z by omega,Ti (a:=a) (b:=b) (c:=c) (by simpa using h1) (by simpa using h2) h.2]
theorem wt_add:∀(r:List Int) {k m:List Nat},k.length=m.length->wt r (Xh k m)=wt r k+wt r m
 |[],k,m,_=>by simp[wt]
 |w::r,[],[],_=>by simp[wt,Xh]
 |w::r,[],_::_,h=>by simp at h
 |w::r,_::_,[],h=>by simp at h
 |w::r,a::k,b::m,h=>by
  have ih:=wt_add r (k:=k) (m:=m) (by simpa using h)
  unfold Xh at ih⊢
  simp only[ZG,wt,ih,Int.natCast_add,Int.mul_add];omega
theorem cmpO_addM:∀(o:List (List Int)) {k m n:List Nat},L8 k->L8 m->L8 n->Wd o (Xh k m) (Xh k n)=Wd o m n
 |[],k,m,n,hk,hm,hn=>cmpL_addMQ k m n (hk.trans hm.symm) (hm.trans hn.symm)
 |r::o,k,m,n,hk,hm,hn=>by
  have ih:=cmpO_addM o hk hm hn
  simp only[Wd,wt_add r (hk.trans hm.symm),wt_add r (hk.trans hn.symm),ih,Int.add_lt_add_iff_left]
theorem LtO.add {o:List (List Int)}{k m n:List Nat}(hk:L8 k)(hm:L8 m)(hn:L8 n)(h:LtO o m n):LtO o (Xh k m) (Xh k n):=by
 unfold LtO at h⊢;rw[cmpO_addM o hk hn hm];exact h
def LeO (o:List (List Int))(m n:List Nat):Prop:=m=n\/LtO o m n
theorem LeO.add {o:List (List Int)}{k m n:List Nat}(hk:L8 k)(hm:L8 m)(hn:L8 n)(h:LeO o m n):LeO o (Xh k m) (Xh k n):=by
 rcases h with rfl|h
 ·exact .inl rfl
 ·exact .inr (h.add hk hm hn)
theorem LeO.lt {o:List (List Int)}{l m n:List Nat}(hl:L8 l)(hm:L8 m)(hn:L8 n)(h:LeO o l m)(h2:LtO o m n):LtO o l n:=by
 rcases h with rfl|h
 ·exact h2
 ·exact h.trans hl hm hn h2
theorem LtO.le {o:List (List Int)}{l m n:List Nat}(hl:L8 l)(hm:L8 m)(hn:L8 n)(h:LtO o l m)(h2:LeO o m n):LtO o l n:=by
 rcases h2 with rfl|h2
 ·exact h
 ·exact h.trans hl hm hn h2
structure Pl (f:List Qm):Prop where
 dc:DcQ f
 q8:Q8 f
theorem Pl.nil:Pl []:=⟨.nil,fun _ h=>by cases h⟩
theorem Pl.uniq {f:List Qm}(h:Pl f){s u:Qm}(hs:s∈f)(hu:u∈f)(e:u.2=s.2):u=s:=by
 have h1:=h.dc.coef_mem s hs
 have h2:=h.dc.coef_mem u hu
 rw[e,h1]at h2
 exact Prod.ext h2.symm e
theorem leadF_mem' (o:List (List Int)):∀(ts:List Qm) (b:Qm),VB o b ts∈b::ts:=fun ts b=>by
 rcases Sy o ts b with h|h
 ·rw[h];exact Zh ..
 ·exact Zc _ h
theorem leadF_max (o:List (List Int)):∀(ts:List Qm) (b:Qm),L8 b.2->(∀t∈ts,L8 t.2)->∀u∈b::ts,LeO o u.2 (VB o b ts).2
 |[],b,hb,_,u,hu=>by
  simp only[Zk,Yk,or_false]at hu
  subst hu;exact .inl rfl
 |t::ts,b,hb,h8,u,hu=>by
  have ht:=h8 t (Zh ..)
  have h8':∀t∈ts,L8 t.2:=fun x hx=>h8 x (Zc _ hx)
  simp only[VB]
  by_cases hc:Wd o t.2 b.2=.ofNat 1
  ·rw[if_pos hc]
   have ih:=leadF_max o ts t ht h8'
   have hm8:L8 (VB o t ts).2:=by
    rcases Sy o ts t with h|h
    ·rw[h];exact ht
    ·exact h8' _ h
   rcases Zk.1 hu with rfl|hu
   ·exact .inr (LtO.le hb ht hm8 hc (ih t (Zh ..)))
   ·exact ih u hu
  ·rw[if_neg hc]
   have ih:=leadF_max o ts b hb h8'
   have hm8:L8 (VB o b ts).2:=by
    rcases Sy o ts b with h|h
    ·rw[h];exact hb
    ·exact h8' _ h
   rcases Zk.1 hu with rfl|hu
   ·exact ih u (Zh ..)
   ·rcases Zk.1 hu with rfl|hu
    ·rcases LtO.tri o ht hb with h|h|h
     ·exact .inr (LtO.le ht hb hm8 h (ih b (Zh ..)))
     ·rw[h];exact ih b (Zh ..)
     ·exact absurd h hc
    ·exact ih u (Zc _ hu)
theorem XL {o:List (List Int)}{f:List Qm}(hf:Pl f){s:Qm}(h:WI o f=some s):s∈f/\L8 s.2/\s.1≠0/\∀u∈f,u=s\/LtO o u.2 s.2:=by
 cases f with
 |nil=>cases h
 |cons t ts=>
  simp only[WI,Za]at h
  subst h
  have hm:=leadF_mem' o ts t
  refine⟨hm,hf.q8 _ hm,hf.dc.nz _ hm,fun u hu=> ?_⟩
  rcases leadF_max o ts t (hf.q8 _ (Zh ..)) (fun x hx=>hf.q8 x (Zc _ hx)) u hu with h|h
  ·exact .inl (hf.uniq hm hu h)
  ·exact .inr h
theorem leadO_none {o:List (List Int)}{f:List Qm}(h:WI o f=none):f=[]:=by
 cases f with
 |nil=>rfl
 |cons t ts=>cases h
theorem leadO_le {o:List (List Int)}{f:List Qm}(hf:Pl f){s:Qm}(h:WI o f=some s):∀u∈f,LeO o u.2 s.2:=fun u hu=>by
 rcases(XL hf h).2.2.2 u hu with h|h
 ·exact .inl (by rw[h])
 ·exact .inr h
def Vo (n:List Nat):List Nat->Rat:=fun k=>if k=n then 1 else 0
theorem coef_eq (f:List Qm)(n:List Nat):coef f n=prQ f (Vo n):=rfl
theorem prQ_none {f:List Qm}{φ:List Nat->Rat}(h:∀u∈f,φ u.2=0):prQ f φ=0:=by
 rw[Ub (ψ:=fun _=>0) h,prQ_zero]
theorem prQ_at {f:List Qm}(hf:Pl f){s:Qm}(hs:s∈f){φ:List Nat->Rat}(h:∀u∈f,u=s\/φ u.2=0):prQ f φ=φ s.2*s.1:=by
 have:=hf.dc.coef_mem s hs
 rw[<-this]
 unfold coef
 rw[<-prQ_mulc]
 apply Ub
 intro t ht
 by_cases e:t.2=s.2
 ·rw[if_pos e,e];grind
 ·rw[if_neg e]
  rcases h t ht with h|h
  ·exact absurd (by rw[h]) e
  ·rw[h];grind
abbrev Fn:=(List Nat->Rat)->Rat
inductive Rep (o:List (List Int))(fs:List (List Qm))(P:List Nat->Prop):Fn->Prop
 |zero {v:Fn} (h:∀φ,v φ=0):Rep o fs P v
 |add {v w:Fn} {f:List Qm} {s:Qm} {c:Rat} {m:List Nat} (hf:f∈fs) (hs:WI o f=some s) (hm:L8 m) (hP:P (Xh m s.2)) (hw:Rep o fs P w) (hv:∀φ,v φ=w φ+c*prQ f fun k=>φ (Xh m k)):Rep o fs P v
variable {o:List (List Int)}{fs:List (List Qm)}{P Q:List Nat->Prop}{v w:Fn}
theorem Rep.congr (h:Rep o fs P v)(e:∀φ,w φ=v φ):Rep o fs P w:=by
 cases h with
 |zero h=>exact .zero fun φ=>by rw[e,h]
 |add hf hs hm hP hw hv=>exact .add hf hs hm hP hw fun φ=>by rw[e,hv]
theorem Rep.mono (h:Rep o fs P v)(k:∀n,P n->Q n):Rep o fs Q v:=by
 induction h with
 |zero h=>exact .zero h
 |add hf hs hm hP hw hv ih=>exact .add hf hs hm (k _ hP) ih hv
theorem Rep.plus (h:Rep o fs P v)(k:Rep o fs P w):Rep o fs P fun φ=>v φ+w φ:=by
 induction h with
 |zero h=>exact k.congr fun φ=>by rw[h];grind
 |@add v w f s c m hf hs hm hP hw hv ih=>exact .add (c:=c) hf hs hm hP ih fun φ=>by rw[hv];grind
theorem Rep.smul (a:Rat)(h:Rep o fs P v):Rep o fs P fun φ=>a*v φ:=by
 induction h with
 |zero h=>exact .zero fun φ=>by rw[h];grind
 |@add v w f s c m hf hs hm hP hw hv ih=>exact .add (c:=a*c) hf hs hm hP ih fun φ=>by rw[hv];grind
theorem Rep.shift {d:List Nat}(hd:L8 d)(hfs:∀f∈fs,Pl f)(h:Rep o fs P v)(k:∀n,P n->Q (Xh d n)):Rep o fs Q fun φ=>v fun n=>φ (Xh d n):=by
 induction h with
 |zero h=>exact .zero fun φ=>h _
 |@add v w f s c m hf hs hm hP hw hv ih=>
  refine .add (c:=c) hf hs (Tn hd hm) (by rw[UT];exact k _ hP) ih fun φ=> ?_
  rw[hv]
  simp only[UT]
theorem Rep.prod {f:List Qm}{s:Qm}(hf:f∈fs)(hs:WI o f=some s):∀{q:List Qm},(∀u∈q,L8 u.2/\P (Xh u.2 s.2))->Rep o fs P fun φ=>prQ q fun m=>prQ f fun k=>φ (Xh m k)
 |[],_=>.zero fun φ=>rfl
 |u::q,h=>by
  have ih:=Rep.prod hf hs (q:=q) fun x hx=>h x (Zc _ hx)
  obtain⟨h1,h2⟩:=h u (Zh ..)
  exact .add (c:=u.1) hf hs h1 h2 ih fun φ=>by simp only[prQ];grind
theorem Rep.top (hfs:∀f∈fs,Pl f)(h:Rep o fs P v){n:List Nat}(hn:L8 n)(k:∀x,P x->LtO o x n):v (Vo n)=0:=by
 induction h with
 |zero h=>exact h _
 |@add v w f s c m hf hs hm hP hw hv ih=>
  obtain⟨h1,h2,h3,h4⟩:=XL (hfs f hf) hs
  rw[hv,ih,prQ_none]
  ·grind
  ·intro u hu
   have hu8:=(hfs f hf).q8 u hu
   have hlt:LtO o (Xh m u.2) n:=by
    have:=leadO_le (hfs f hf) hs u hu
    exact LeO.lt (Tn hm hu8) (Tn hm h2) hn (this.add hm hu8 h2) (k _ hP)
   unfold Vo
   rw[if_neg hlt.ne]
theorem Rep.join (hfs:∀f∈fs,Pl f){δ:List Nat}(hd:∀n,P n->n=δ\/Q n)
  (hsp:∀f∈fs,∀g∈fs,∀s t m k,WI o f=some s->WI o g=some t->L8 m->L8 k->Xh m s.2=δ->Xh k t.2=δ->Rep o fs Q fun φ=>t.1*(prQ f fun n=>φ (Xh m n))-s.1*prQ g fun n=>φ (Xh k n))
  (h:Rep o fs P v):Rep o fs Q v\/∃f s m c w,f∈fs/\WI o f=some s/\L8 m/\Xh m s.2=δ/\Rep o fs Q w/\∀φ,v φ=w φ+c*prQ f fun k=>φ (Xh m k):=by
 induction h with
 |zero h=>exact .inl (.zero h)
 |@add v w f s c m hf hs hm hP hw hv ih=>
  rcases hd _ hP with e|hq
  ·rcases ih with ih|⟨f0,s0,m0,c0,w0,a1,a2,a3,a4,a5,a6⟩
   ·exact .inr ⟨f,s,m,c,w,hf,hs,hm,e,ih,hv⟩
   ·have hsp1:=hsp f hf f0 a1 s s0 m m0 hs a2 hm a3 e a4
    have hne:=(XL (hfs f0 a1) a2).2.2.1
    refine .inr ⟨f0,s0,m0,c0+c*s.1 / s0.1,_,a1,a2,a3,a4,a5.plus (hsp1.smul (c / s0.1)),fun φ=> ?_⟩
    rw[hv,a6]
    generalize (prQ f fun k=>φ (Xh m k))=X
    generalize (prQ f0 fun k=>φ (Xh m0 k))=Y
    have :c / s0.1*s0.1=c:=Rat.div_mul_cancel hne
    have e2:c*s.1 / s0.1=c / s0.1*s.1:=by rw[Rat.div_def,Rat.div_def];grind
    rw[e2];grind
  ·rcases ih with ih|⟨f0,s0,m0,c0,w0,a1,a2,a3,a4,a5,a6⟩
   ·exact .inl (.add hf hs hm hq ih hv)
   ·exact .inr ⟨f0,s0,m0,c0,_,a1,a2,a3,a4,.add (v:=fun φ=>w0 φ+c*prQ f fun k=>φ (Xh m k)) (c:=c) hf hs hm hq a5 (fun φ=>rfl),fun φ=>by rw[hv,a6];generalize (prQ f fun k=>φ (Xh m k))=X;generalize (prQ f0 fun k=>φ (Xh m0 k))=Y;generalize w0 φ=Z;grind⟩
theorem Rep.lead (hfs:∀f∈fs,Pl f){W:List Nat->Prop}(hW:∀n,W n->L8 n)
  (hsp:∀δ,W δ->∀f∈fs,∀g∈fs,∀s t m k,WI o f=some s->WI o g=some t->L8 m->L8 k->Xh m s.2=δ->Xh k t.2=δ->Rep o fs (fun n=>W n/\LtO o n δ) fun φ=>t.1*(prQ f fun n=>φ (Xh m n))-s.1*prQ g fun n=>φ (Xh k n)):
  ∀(l:List (List Nat)),(∀n∈l,W n)->l.Pairwise (fun a b=>LtO o b a)->(∀δ∈l,∀n,W n->LtO o n δ->n∈l)->∀v:Fn,Rep o fs (fun n=>n∈l) v->
   (∀n,L8 n->v (Vo n)=0)\/∃δ f s,v (Vo δ)≠0/\δ∈l/\(∀n,L8 n->LtO o δ n->v (Vo n)=0)/\f∈fs/\WI o f=some s/\XU s.2 δ=true
 |[],_,_,_,v,h=>by
  refine .inl fun n _=> ?_
  cases h with
  |zero h=>exact h _
  |add _ _ _ hP _ _=>cases hP
 |δ::l,hl,hp,hc,v,h=>by
  obtain⟨p1,p2⟩:=Zt.1 hp
  have hδ:=hW δ (hl δ (Zh ..))
  have hl':∀n∈l,W n:=fun n hn=>hl n (Zc _ hn)
  have hc':∀d∈l,∀n,W n->LtO o n d->n∈l:=fun d hd n hn hlt=>by
   rcases Zk.1 (hc d (Zc _ hd) n hn hlt)with rfl|h
   ·exact absurd (p1 d hd) (hlt.asymm (hW _ hn) (hW _ (hl' d hd)))
   ·exact h
  have step:Rep o fs (fun n=>n∈l) v->_:=fun h'=>Rep.lead hfs hW hsp l hl' p2 hc' v h'
  rcases h.join (Q:=fun n=>n∈l) (δ:=δ) hfs (fun n hn=>Zk.1 hn) (fun f hf g hg s t m k hs ht hm hk e1 e2=>(hsp δ (hl δ (Zh ..)) f hf g hg s t m k hs ht hm hk e1 e2).mono fun n hn=>by
   rcases Zk.1 (hc δ (Zh ..) n hn.1 hn.2)with rfl|h
   ·exact absurd hn.2 LtO.irr
   ·exact h)with h'|⟨f,s,m,c,w,a1,a2,a3,a4,a5,a6⟩
  ·rcases step h' with h|⟨d,f,s,b1,b2,b3⟩
   ·exact .inl h
   ·exact .inr ⟨d,f,s,b1,Zc _ b2,b3⟩
  ·by_cases hc0:c=0
   ·rcases step (a5.congr fun φ=>by rw[a6,hc0];grind)with h|⟨d,f,s,b1,b2,b3⟩
    ·exact .inl h
    ·exact .inr ⟨d,f,s,b1,Zc _ b2,b3⟩
   ·obtain⟨h1,h2,h3,h4⟩:=XL (hfs f a1) a2
    refine .inr ⟨δ,f,s,?_,Zh ..,fun n hn hlt=> ?_,a1,a2,?_⟩
    ·rw[a6,a5.top hfs hδ p1,prQ_at (hfs f a1) h1 (fun u hu=> ?_)]
     ·unfold Vo
      rw[a4,if_pos rfl]
      intro e
      have :c*s.1=0:=by grind
      exact(Rat.mul_eq_zero.1 this).elim hc0 h3
     ·rcases h4 u hu with h|h
      ·exact .inl h
      ·right
       have:=h.add a3 ((hfs f a1).q8 u hu) h2
       rw[a4]at this
       unfold Vo;rw[if_neg this.ne]
    ·rw[a6,a5.top hfs hn (fun x hx=>(p1 x hx).trans (hW _ (hl' x hx)) hδ hn hlt),prQ_none]
     ·grind
     ·intro u hu
      have hu8:=(hfs f a1).q8 u hu
      have h5:=(leadO_le (hfs f a1) a2 u hu).add a3 hu8 h2
      rw[a4]at h5
      unfold Vo
      rw[if_neg (h5.lt (Tn a3 hu8) hδ hn hlt).ne]
    ·rw[<-a4,XE];exact divL_sum ..
end Go.Num
namespace Go.Num
open Go.Ev
structure Nz (ts:List Qm):Prop where
 nd:(ts.map (·.2)).Nodup
 nz:∀t∈ts,t.1≠0
 q8:∀t∈ts,L8 t.2
theorem Nz.tail {t:Qm}{ts:List Qm}(h:Nz (t::ts)):Nz ts:=⟨(List.nodup_cons.1 h.nd).2,fun x hx=>h.nz x (Zc _ hx),fun x hx=>h.q8 x (Zc _ hx)⟩
theorem Nz.coefAt:∀{ts:List Qm},Nz ts->∀t∈ts,coef ts t.2=t.1
 |u::ts,h,t,ht=>by
  have h1:=(List.nodup_cons.1 h.nd).1
  rw[coef_cons]
  rcases Zk.1 ht with rfl|ht
  ·rw[if_pos rfl,coef_not fun x hx e=>h1 (ZM.2 ⟨x,hx,e⟩)];grind
  ·rw[if_neg (fun e=>h1 (ZM.2 ⟨t,ht,e.symm⟩)),h.tail.coefAt t ht];grind
theorem Nz.mem {ts:List Qm}(h:Nz ts){m:List Nat}(hc:coef ts m≠0):(coef ts m,m)∈ts:=by
 by_cases e:∃t∈ts,t.2=m
 ·obtain⟨t,ht,rfl⟩:=e
  rw[h.coefAt t ht];exact ht
 ·exact absurd (coef_not fun t ht he=>e ⟨t,ht,he⟩) hc
theorem Pl.nzs {ts:List Qm}(h:Pl ts):Nz ts:=by
 refine⟨?_,h.dc.nz,h.q8⟩
 rw[List.nodup_iff_pairwise_ne,List.pairwise_map]
 exact h.dc.pw.imp fun e=>cmpL_ne e
structure PO (o:List (List Int))(ts:List Qm):Prop where
 pw:ts.Pairwise fun t u=>LtO o u.2 t.2
 nz:∀t∈ts,t.1≠0
 q8:∀t∈ts,L8 t.2
variable {o:List (List Int)}
theorem PO.nil:PO o []:=⟨.nil,(fun _ h=>by cases h),(fun _ h=>by cases h)⟩
theorem PO.tail {t:Qm}{ts:List Qm}(h:PO o (t::ts)):PO o ts:=⟨(Zt.1 h.pw).2,fun x hx=>h.nz x (Zc _ hx),fun x hx=>h.q8 x (Zc _ hx)⟩
theorem PO.cons {t:Qm}{ts:List Qm}(h:PO o ts)(h0:t.1≠0)(h8:L8 t.2)(hl:∀u∈ts,LtO o u.2 t.2):PO o (t::ts):=
 ⟨Zt.2 ⟨hl,h.pw⟩,fun x hx=>by rcases Zk.1 hx with rfl|hx;exact h0;exact h.nz x hx,fun x hx=>by rcases Zk.1 hx with rfl|hx;exact h8;exact h.q8 x hx⟩
theorem PO.app {ts us:List Qm}(h:PO o ts)(k:PO o us)(hl:∀t∈ts,∀u∈us,LtO o u.2 t.2):PO o (ts++us):=
 ⟨List.pairwise_append.2 ⟨h.pw,k.pw,hl⟩,fun x hx=>by rcases Z3.1 hx with hx|hx;exact h.nz x hx;exact k.nz x hx,fun x hx=>by rcases Z3.1 hx with hx|hx;exact h.q8 x hx;exact k.q8 x hx⟩
theorem PO.nzs {ts:List Qm}(h:PO o ts):Nz ts:=by
 refine⟨?_,h.nz,h.q8⟩
 rw[List.nodup_iff_pairwise_ne,List.pairwise_map]
 exact h.pw.imp fun e=>(LtO.ne e).symm
theorem prQ_app (φ:List Nat->Rat):∀(ts us:List Qm),prQ (ts++us) φ=prQ ts φ+prQ us φ
 |[],us=>by simp only[ZL,prQ];grind
 |t::ts,us=>by simp only[ZR,prQ,prQ_app φ ts us];grind
theorem prQ_perm {φ:List Nat->Rat}{ts us:List Qm}(h:ts.Perm us):prQ ts φ=prQ us φ:=by
 induction h with
 |nil=>rfl
 |cons x _ ih=>simp only[prQ,ih]
 |swap x y l=>simp only[prQ];grind
 |trans _ _ h1 h2=>rw[h1,h2]
theorem insQ_po {t:Qm}(h0:t.1≠0)(h8:L8 t.2):∀{ts:List Qm},PO o ts->(∀u∈ts,u.2≠t.2)->PO o (insQ o t ts)
 |[],_,_=>PO.cons .nil h0 h8 fun _ h=>by cases h
 |u::us,h,hn=>by
  have hu8:=h.q8 u (Zh ..)
  have ih:=insQ_po h0 h8 h.tail fun x hx=>hn x (Zc _ hx)
  unfold insQ
  rcases LtO.tri o h8 hu8 with h1|h1|h1
  ·have e:ltF (Wd o t.2 u.2) (.ofNat 0)=true:=by
    rw[Go.Proofs.YtefpgecinlekpaaGreat.SL.2 h1];rfl
   rw[e]
   refine PO.cons ih (h.nz u (Zh ..)) hu8 fun x hx=> ?_
   rcases Zk.1 ((insQ_perm o t us).mem_iff.1 hx)with rfl|hx
   ·exact h1
   ·exact(Zt.1 h.pw).1 x hx
  ·exact absurd h1.symm (hn u (Zh ..))
  ·have e:ltF (Wd o t.2 u.2) (.ofNat 0)=false:=by
    unfold LtO at h1;rw[h1];rfl
   rw[e]
   refine PO.cons h h0 h8 fun x hx=> ?_
   rcases Zk.1 hx with rfl|hx
   ·exact h1
   ·exact((Zt.1 h.pw).1 x hx).trans (h.q8 x (Zc _ hx)) hu8 h8 h1
theorem sortQ_po:∀{ts:List Qm},Nz ts->PO o (U3 o ts)
 |[],_=>.nil
 |t::ts,h=>by
  have ih:=sortQ_po h.tail
  refine insQ_po (h.nz t (Zh ..)) (h.q8 t (Zh ..)) ih fun u hu e=> ?_
  exact(List.nodup_cons.1 h.nd).1 (ZM.2 ⟨u,(VI o ts).mem_iff.1 hu,e⟩)
theorem prQ_sort (φ:List Nat->Rat)(ts:List Qm):prQ (U3 o ts) φ=prQ ts φ:=prQ_perm (VI o ts)
theorem lead_sort {f:List Qm}(hf:Pl f){s:Qm}{us:List Qm}(h:U3 o f=s::us):WI o f=some s:=by
 have hp:=VI o f
 rw[h]at hp
 have hpo:=sortQ_po (o:=o) hf.nzs
 rw[h]at hpo
 have hs:s∈f:=hp.mem_iff.1 (Zh ..)
 cases hl:WI o f with
 |none=>rw[leadO_none hl]at hs;cases hs
 |some t=>
  obtain⟨h1,h2,h3,h4⟩:=XL hf hl
  rcases h4 s hs with rfl|h5
  ·rfl
  ·rcases Zk.1 (hp.mem_iff.2 h1)with rfl|h6
   ·exact absurd h5 LtO.irr
   ·exact absurd h5 (((Zt.1 hpo.pw).1 t h6).asymm h2 (hf.q8 s hs))
theorem splitQ_app' (o:List (List Int))(mm:List Nat)(p:List Qm):(WE o mm p).1++(WE o mm p).2=p:=Go.Proofs.YtefpgecinlekpaaGreat.SR o mm p
theorem split_spec (mm:List Nat):∀{p:List Qm},PO o p->L8 mm->(∀x∈(WE o mm p).1,LtO o mm x.2)/\(∀x∈(WE o mm p).2,LeO o x.2 mm)
 |[],_,_=>⟨(fun _ h=>by cases h),(fun _ h=>by cases h)⟩
 |s::p,h,hm=>by
  have hs8:=h.q8 s (Zh ..)
  unfold WE
  by_cases h1:Wd o s.2 mm=.ofNat 1
  ·rw[if_pos h1]
   obtain⟨g1,g2⟩:=split_spec mm h.tail hm
   refine⟨fun x hx=> ?_,g2⟩
   rcases Zk.1 hx with rfl|hx
   ·exact h1
   ·exact g1 x hx
  ·rw[if_neg h1]
   refine⟨(fun _ h=>by cases h),fun x hx=> ?_⟩
   have hle:LeO o s.2 mm:=by
    rcases LtO.tri o hs8 hm with h2|h2|h2
    ·exact .inr h2
    ·exact .inl h2
    ·exact absurd h2 h1
   rcases Zk.1 hx with rfl|hx
   ·exact hle
   ·exact .inr (((Zt.1 h.pw).1 x hx).le (h.q8 x (Zc _ hx)) hs8 hm hle)
theorem PO.sub {p q:List Qm}(h:PO o p)(hs:q.Sublist p):PO o q:=⟨h.pw.sublist hs,fun t ht=>h.nz t (hs.subset ht),fun t ht=>h.q8 t (hs.subset ht)⟩
theorem subO_spec {c:Rat}(c0:c≠0){m:List Nat}(hm:L8 m):∀(q p:List Qm),PO o p->PO o q->
  PO o (Uj o c m p q)/\(∀x∈Uj o c m p q,(∃y∈p,y.2=x.2)\/∃u∈q,x.2=Xh u.2 m)/\∀φ,prQ (Uj o c m p q) φ=prQ p φ+c*prQ q fun k=>φ (Xh k m)
 |[],p,hp,_=>⟨by rw[Uj];exact hp,fun x hx=>by rw[Uj]at hx;exact .inl ⟨x,hx,rfl⟩,fun φ=>by rw[Uj];simp only[prQ];grind⟩
 |t::q,p,hp,hq=>by
  have ht8:=hq.q8 t (Zh ..)
  have hmm:=Tn ht8 hm
  obtain⟨g1,g2⟩:=split_spec (Xh t.2 m) hp hmm
  have happ:=splitQ_app' o (Xh t.2 m) p
  have hct:c*t.1≠0:=Rat_mul_ne_zero c0 (hq.nz t (Zh ..))
  have hlow:∀u∈q,LtO o (Xh u.2 m) (Xh t.2 m):=fun u hu=>by
   have:=((Zt.1 hq.pw).1 u hu).add hm (hq.q8 u (Zc _ hu)) ht8
   rwa[XE m,XE m]at this
  have key:∀(R R':List Qm),(WE o (Xh t.2 m) p).2=R->R'.Sublist R->(∀x∈R',LtO o x.2 (Xh t.2 m))->PO o (Uj o c m R' q)/\(∀x∈Uj o c m R' q,LtO o x.2 (Xh t.2 m))/\(∀x∈Uj o c m R' q,(∃y∈p,y.2=x.2)\/∃u∈q,x.2=Xh u.2 m)/\∀φ,prQ (Uj o c m R' q) φ=prQ R' φ+c*prQ q fun k=>φ (Xh k m):=by
   intro R R' hR hs hlt
   have hRp:R'.Sublist p:=by rw[<-happ,hR];exact hs.trans (List.sublist_append_right ..)
   obtain⟨k1,k2,k3⟩:=subO_spec c0 hm q R' (hp.sub hRp) hq.tail
   refine⟨k1,fun x hx=> ?_,fun x hx=> ?_,k3⟩
   ·rcases k2 x hx with⟨y,hy,e⟩|⟨u,hu,e⟩
    ·rw[<-e];exact hlt y hy
    ·rw[e];exact hlow u hu
   ·rcases k2 x hx with⟨y,hy,e⟩|⟨u,hu,e⟩
    ·exact .inl ⟨y,hRp.subset hy,e⟩
    ·exact .inr ⟨u,hu,e⟩
  have hos:(WE o (Xh t.2 m) p).1.Sublist p:=by
   have:=List.sublist_append_left (WE o (Xh t.2 m) p).1 (WE o (Xh t.2 m) p).2
   rwa[happ]at this
  have hpr:∀φ,prQ p φ=prQ (WE o (Xh t.2 m) p).1 φ+prQ (WE o (Xh t.2 m) p).2 φ:=fun φ=>by
   rw[<-prQ_app,happ]
  unfold Uj
  generalize hsp:WE o (Xh t.2 m) p=sp at g1 g2 happ key hos hpr
  obtain⟨os,R⟩:=sp
  simp only at g1 g2 happ key hos hpr
  have hpos:=hp.sub hos
  have fin:∀(X:List Qm),PO o X->(∀x∈X,LeO o x.2 (Xh t.2 m))->PO o (os++X):=fun X hX hle=>hpos.app hX fun a ha b hb=>(hle b hb).lt (hX.q8 b hb) hmm (hpos.q8 a ha) (g1 a ha)
  have fm:∀(X:List Qm),(∀x∈X,(∃y∈p,y.2=x.2)\/∃u∈t::q,x.2=Xh u.2 m)->∀x∈os++X,(∃y∈p,y.2=x.2)\/∃u∈t::q,x.2=Xh u.2 m:=fun X h x hx=>by
   rcases Z3.1 hx with hx|hx
   ·exact .inl ⟨x,hos.subset hx,rfl⟩
   ·exact h x hx
  have up:∀{x:Qm},((∃y∈p,y.2=x.2)\/∃u∈q,x.2=Xh u.2 m)->(∃y∈p,y.2=x.2)\/∃u∈t::q,x.2=Xh u.2 m:=fun h=>by
   rcases h with h|⟨u,hu,e⟩
   ·exact .inl h
   ·exact .inr ⟨u,Zc _ hu,e⟩
  have hself:∀(z:Rat),(∃y∈p,y.2=((z,Xh t.2 m):Qm).2)\/∃u∈t::q,((z,Xh t.2 m):Qm).2=Xh u.2 m:=fun z=>.inr ⟨t,Zh ..,rfl⟩
  cases R with
  |nil=>
   obtain⟨k1,k2,k3,k4⟩:=key [] [] rfl (List.Sublist.refl _) (fun _ h=>by cases h)
   refine⟨fin _ (k1.cons hct hmm k2) fun x hx=> ?_,fm _ fun x hx=> ?_,fun φ=> ?_⟩
   ·rcases Zk.1 hx with rfl|hx
    ·exact .inl rfl
    ·exact .inr (k2 x hx)
   ·rcases Zk.1 hx with rfl|hx
    ·exact hself _
    ·exact up (k3 x hx)
   ·rw[prQ_app,hpr]
    simp only[prQ,k4];grind
  |cons s rs=>
   have hsle:=g2 s (Zh ..)
   have hRsub:(s::rs).Sublist p:=by
    have:=List.sublist_append_right os (s::rs)
    rwa[happ]at this
   have hpR:=hp.sub hRsub
   have hrs:∀x∈rs,LtO o x.2 s.2:=(Zt.1 hpR.pw).1
   have hs8:=hpR.q8 s (Zh ..)
   have hrs2:∀x∈rs,LtO o x.2 (Xh t.2 m):=fun x hx=>(hrs x hx).le (hpR.q8 x (Zc _ hx)) hs8 hmm hsle
   by_cases he:s.2=Xh t.2 m
   ·simp only[he,if_true]
    obtain⟨k1,k2,k3,k4⟩:=key (s::rs) rs rfl (List.sublist_cons_self ..) hrs2
    by_cases h0:s.1+c*t.1=0
    ·rw[if_pos h0]
     refine⟨fin _ k1 fun x hx=>.inr (k2 x hx),fm _ fun x hx=>up (k3 x hx),fun φ=> ?_⟩
     rw[prQ_app,hpr]
     simp only[prQ,k4,he]
     have :s.1*φ (Xh t.2 m)+c*t.1*φ (Xh t.2 m)=0:=by rw[<-Rat.add_mul,h0,Rat.zero_mul]
     grind
    ·rw[if_neg h0]
     refine⟨fin _ (k1.cons h0 hmm k2) fun x hx=> ?_,fm _ fun x hx=> ?_,fun φ=> ?_⟩
     ·rcases Zk.1 hx with rfl|hx
      ·exact .inl rfl
      ·exact .inr (k2 x hx)
     ·rcases Zk.1 hx with rfl|hx
      ·exact hself _
      ·exact up (k3 x hx)
     ·rw[prQ_app,hpr]
      simp only[prQ,k4,he];grind
   ·simp only[he,if_false]
    have hslt:LtO o s.2 (Xh t.2 m):=hsle.resolve_left he
    obtain⟨k1,k2,k3,k4⟩:=key (s::rs) (s::rs) rfl (List.Sublist.refl _) (fun x hx=>by
     rcases Zk.1 hx with rfl|hx
     ·exact hslt
     ·exact hrs2 x hx)
    refine⟨fin _ (k1.cons hct hmm k2) fun x hx=> ?_,fm _ fun x hx=> ?_,fun φ=> ?_⟩
    ·rcases Zk.1 hx with rfl|hx
     ·exact .inl rfl
     ·exact .inr (k2 x hx)
    ·rcases Zk.1 hx with rfl|hx
     ·exact hself _
     ·exact up (k3 x hx)
    ·rw[prQ_app,hpr]
     simp only[prQ,k4];grind
end Go.Num
namespace Go.Num
open Go.Ev
def wtN:List Nat->List Nat->Nat
 |w::ws,e::es=>w*e+wtN ws es
 |_,_=>0
theorem UU:∀(w:List Nat) {m n:List Nat},m.length=n.length->wtN w (Xh m n)=wtN w m+wtN w n
 |[],m,n,_=>by simp[wtN]
 |a::w,[],[],_=>by simp[wtN,Xh]
 |a::w,[],_::_,h=>by simp at h
 |a::w,_::_,[],h=>by simp at h
 |a::w,x::m,y::n,h=>by
  have ih:=UU w (m:=m) (n:=n) (by simpa using h)
  unfold Xh at ih⊢
  simp only[ZG,wtN,ih,Nat.mul_add];omega
theorem wtN_le:∀{w m:List Nat},w.length=m.length->(∀a∈w,0<a)->∀e∈m,e<=wtN w m
 |[],[],_,_,e,he=>by cases he
 |[],_::_,h,_,_,_=>by simp at h
 |a::w,x::m,h,hw,e,he=>by
  have ha:=hw a (Zh ..)
  simp only[wtN]
  rcases Zk.1 he with rfl|he
  ·have:=Nat.le_mul_of_pos_left e ha;omega
  ·have:=wtN_le (w:=w) (m:=m) (by simpa using h) (fun b hb=>hw b (Zc _ hb)) e he
   omega
def allM:List Nat->Nat->List (List Nat)
 |[],_=>[[]]
 |a::w,W=>(List.range (W / a+1)).flatMap fun e=>(allM w (W-a*e)).map (e:: ·)
theorem mem_allM:∀{w m:List Nat} {W:Nat},w.length=m.length->(∀a∈w,0<a)->wtN w m<=W->m∈allM w W
 |[],[],_,_,_,_=>Zh ..
 |[],_::_,_,h,_,_=>by simp at h
 |a::w,[],_,h,_,_=>by simp at h
 |a::w,x::m,W,h,hw,hle=>by
  have ha:=hw a (Zh ..)
  simp only[wtN]at hle
  unfold allM
  refine Ya.2 ⟨x,List.mem_range.2 ?_,ZM.2 ⟨m,mem_allM (by simpa using h) (fun b hb=>hw b (Zc _ hb)) (by omega),rfl⟩⟩
  have :x<=W / a:=(Nat.le_div_iff_mul_le ha).2 (by rw[ZE];omega)
  omega
theorem allM_mem:∀{w m:List Nat} {W:Nat},m∈allM w W->(∀a∈w,0<a)->m.length=w.length/\wtN w m<=W
 |[],m,_,h,_=>by
  simp only[allM,Zk,Yk,or_false]at h
  subst h;exact⟨rfl,Zr _⟩
 |a::w,m,W,h,hw=>by
  have ha:=hw a (Zh ..)
  unfold allM at h
  obtain⟨e,he,hm⟩:=Ya.1 h
  obtain⟨m',hm',rfl⟩:=ZM.1 hm
  obtain⟨h1,h2⟩:=allM_mem hm' fun b hb=>hw b (Zc _ hb)
  have h3:e<=W / a:=by have:=List.mem_range.1 he;omega
  have h4:e*a<=W:=(Nat.le_div_iff_mul_le ha).1 h3
  rw[ZE]at h4
  exact⟨by simp[h1],by simp only[wtN];omega⟩
def numM:List Nat->Nat->Nat
 |[],_=>1
 |a::w,W=>(W / a+1)*numM w W
theorem numM_mono:∀(w:List Nat) {V W:Nat},V<=W->numM w V<=numM w W
 |[],_,_,_=>Zg _
 |a::w,V,W,h=>Yz (by have:=Nat.div_le_div_right (c:=a) h;omega) (numM_mono w h)
theorem flat_len {α β:Type}(f:α->List β)(c:Nat):∀(l:List α),(∀x∈l,(f x).length<=c)->(l.flatMap f).length<=l.length*c
 |[],_=>by simp
 |x::l,h=>by
  have ih:=flat_len f c l fun y hy=>h y (Zc _ hy)
  have hx:=h x (Zh ..)
  simp only[Yv,Zm,Zi,Nat.succ_mul];omega
theorem allM_len:∀(w:List Nat) (W:Nat),(allM w W).length<=numM w W
 |[],_=>Zg _
 |a::w,W=>by
  unfold allM numM
  refine ZC (flat_len _ (numM w W) _ fun e _=> ?_) (by rw[List.length_range];exact Zg _)
  rw[ZU]
  exact ZC (allM_len w _) (numM_mono w (Nat.sub_le ..))
def insM (o:List (List Int))(m:List Nat):List (List Nat)->List (List Nat)
 |[]=>[m]
 |n::l=>if Wd o m n=.ofNat 1 then m::n::l else if m=n then n::l else n::insM o m l
def Tz (o:List (List Int)):List (List Nat)->List (List Nat)
 |[]=>[]
 |m::l=>insM o m (Tz o l)
variable {o:List (List Int)}
theorem mem_insM {m x:List Nat}:∀{l:List (List Nat)},x∈insM o m l↔x=m\/x∈l
 |[]=>by simp[insM]
 |n::l=>by
  unfold insM
  split
  ·simp
  ·split
   ·rename_i h;subst h;simp
   ·simp only[Zk,mem_insM (l:=l)]
    constructor
    ·rintro (h|h|h)<;>simp[h]
    ·rintro (h|h|h)<;>simp[h]
theorem Vd {x:List Nat}:∀{l:List (List Nat)},x∈Tz o l↔x∈l
 |[]=>by simp[Tz]
 |m::l=>by simp only[Tz,mem_insM,Vd (l:=l),Zk]
theorem insM_len (m:List Nat):∀(l:List (List Nat)),(insM o m l).length<=l.length+1
 |[]=>by simp[insM]
 |n::l=>by
  have ih:=insM_len m l
  unfold insM
  split
  ·simp
  ·split
   ·simp
   ·simp only[Zi];omega
theorem sortM_len:∀(l:List (List Nat)),(Tz o l).length<=l.length
 |[]=>by simp[Tz]
 |m::l=>by
  have:=insM_len (o:=o) m (Tz o l)
  have:=sortM_len l
  simp only[Tz,Zi];omega
abbrev DcM (o:List (List Int))(l:List (List Nat)):Prop:=l.Pairwise fun a b=>LtO o b a
theorem insM_dc {m:List Nat}(hm:L8 m):∀{l:List (List Nat)},DcM o l->(∀n∈l,L8 n)->DcM o (insM o m l)
 |[],_,_=>List.pairwise_singleton ..
 |n::l,h,h8=>by
  have hn:=h8 n (Zh ..)
  have hl:∀x∈l,L8 x:=fun x hx=>h8 x (Zc _ hx)
  obtain⟨p1,p2⟩:=Zt.1 h
  unfold insM
  by_cases h1:Wd o m n=.ofNat 1
  ·rw[if_pos h1]
   refine Zt.2 ⟨fun x hx=> ?_,h⟩
   rcases Zk.1 hx with rfl|hx
   ·exact h1
   ·exact(p1 x hx).trans (hl x hx) hn hm h1
  ·rw[if_neg h1]
   by_cases h2:m=n
   ·rw[if_pos h2];exact h
   ·rw[if_neg h2]
    refine Zt.2 ⟨fun x hx=> ?_,insM_dc hm p2 hl⟩
    rcases mem_insM.1 hx with rfl|hx
    ·rcases LtO.tri o hm hn with h|h|h
     ·exact h
     ·exact absurd h h2
     ·exact absurd h h1
    ·exact p1 x hx
theorem sortM_dc:∀{l:List (List Nat)},(∀n∈l,L8 n)->DcM o (Tz o l)
 |[],_=>.nil
 |m::l,h=>insM_dc (h m (Zh ..)) (sortM_dc fun x hx=>h x (Zc _ hx)) fun n hn=>h n (Zc _ (Vd.1 hn))
theorem PO.len_le:∀{l:List (List Nat)} {p:List Qm},DcM o l->(∀n∈l,L8 n)->PO o p->(∀t∈p,t.2∈l)->p.length<=l.length
 |[],[],_,_,_,_=>Zg _
 |[],t::p,_,_,_,h=>by have:=h t (Zh ..);cases this
 |δ::l,[],_,_,_,_=>Zr _
 |δ::l,t::p,hl,h8,hp,h=>by
  obtain⟨p1,p2⟩:=Zt.1 hl
  have hl8:∀n∈l,L8 n:=fun n hn=>h8 n (Zc _ hn)
  have :∀u∈p,u.2∈l:=fun u hu=>by
   have hlt:=(Zt.1 hp.pw).1 u hu
   rcases Zk.1 (h u (Zc _ hu))with e|e
   ·rcases Zk.1 (h t (Zh ..))with e2|e2
    ·rw[e,e2]at hlt;exact absurd hlt LtO.irr
    ·rw[e]at hlt
     exact absurd hlt ((p1 _ e2).asymm (hl8 _ e2) (h8 δ (Zh ..)))
   ·exact e
  have:=PO.len_le p2 hl8 hp.tail this
  simp only[Zi];omega
def Cf (C:Nat)(ts:List Qm):Prop:=∃D:Nat,0<D/\D<=C/\∀t∈ts,∃z:Int,t.1*(D:Rat)=(z:Rat)/\z.natAbs<=C
theorem Cf.sub {C:Nat}{ts us:List Qm}(h:Cf C ts)(hs:∀t∈us,t∈ts):Cf C us:=by
 obtain⟨D,h1,h2,h3⟩:=h
 exact⟨D,h1,h2,fun t ht=>h3 t (hs t ht)⟩
theorem rat_den (x:Rat):(x.num:Rat)=x*(x.den:Rat):=by
 have h:(x.den:Rat)≠0:=by
  intro h
  exact x.den_nz (by exact_mod_cast h)
 have h1:=Rat.mkRat_self x
 rw[Rat.mkRat_eq_div]at h1
 have h2:(x.num:Rat) / (x.den:Rat)*(x.den:Rat)=x.num:=Rat.div_mul_cancel h
 rw[h1]at h2;exact h2.symm
theorem rat_size {x:Rat}{D:Nat}(hD:0<D){z:Int}(h:x*(D:Rat)=(z:Rat)):x.num.natAbs<=z.natAbs/\x.den<=D:=by
 have hx:(x.num:Rat)*D=z*x.den:=by
  have h1:=rat_den x
  rw[h1,Rat.mul_assoc,Rat.mul_comm (x.den:Rat),<-Rat.mul_assoc,h]
 have hi:x.num*(D:Int)=z*(x.den:Int):=by
  have :((x.num*(D:Int):Int):Rat)=((z*(x.den:Int):Int):Rat):=by
   rw[Yl,Yl];exact hx
  exact Rat.intCast_inj.1 this
 have hn:x.num.natAbs*D=z.natAbs*x.den:=by
  have:=congrArg Int.natAbs hi
  rwa[Yi,Yi,ZV,ZV]at this
 have hd:x.den ∣ D:=by
  have :x.den ∣ x.num.natAbs*D:=⟨z.natAbs,by rw[hn,ZE]⟩
  exact Nat.Coprime.dvd_of_dvd_mul_left (Nat.Coprime.symm x.reduced) this
 obtain⟨e,rfl⟩:=hd
 refine⟨?_,Nat.le_of_dvd hD ⟨e,rfl⟩⟩
 have he:0<e:=by
  rcases Z0 e with h0|h0
  ·subst h0;simp at hD
  ·exact h0
 have :x.num.natAbs*e=z.natAbs:=by
  apply Nat.eq_of_mul_eq_mul_right x.den_pos
  rw[<-hn,Yj,ZE e]
 rw[<-this];exact Nat.le_mul_of_pos_right _ he
end Go.Num
