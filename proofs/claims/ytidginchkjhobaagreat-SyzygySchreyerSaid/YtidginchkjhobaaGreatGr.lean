/- Orders of monomials and sums of products: plain facts. -/
import Derived.Test.YtidginchkjhobaaGreatQBas
namespace Go.Num
open Go.Ev
theorem Am:∀(o:M') (m n:P'),WX o m n=.ofNat 1\/WX o m n=.negSucc 0\/WX o m n=.ofNat 0:=Go.Proofs.YtidginchkjhobaaGreat.Ul
def WO (o:M')(m n:P'):Prop:=WX o n m=.ofNat 1
instance (o:M')(m n:P'):Decidable (WO o m n):=by unfold WO;infer_instance
abbrev L8 (m:P'):Prop:=m.length=8
theorem WO.trans {o:M'}{l m n:P'}(d:L8 l)(a:L8 m)(e:L8 n)(b:WO o l m)(c:WO o m n):WO o l n:=
 Go.Proofs.YtidginchkjhobaaGreat.aJ (e.trans a.symm) (a.trans d.symm) c b
theorem WO.zD {o:M'}{m:P'}:¬WO o m m:=by
 unfold WO;rw[NP];decide
theorem WO.Kc (o:M'){m n:P'}(a:L8 m)(b:L8 n):WO o m n\/m=n\/WO o n m:=by
 rcases Am o n m with h|h|h
 ·exact .inl h
 ·exact .inr (.inr (Go.Proofs.YtidginchkjhobaaGreat.Pw.1 h))
 ·exact .inr (.inl (Go.Proofs.YtidginchkjhobaaGreat.ef (b.trans a.symm) h).symm)
theorem WO.ne {o:M'}{m n:P'}(h:WO o m n):m≠n:=fun e=>WO.zD (e▸h)
theorem WO.asymm {o:M'}{m n:P'}(a:L8 m)(b:L8 n)(h:WO o m n):¬WO o n m:=fun k=>WO.zD (WO.trans a b a h k)
theorem XW (m n:P'):Xg m n=Xg n m:=by
 unfold Xg;rw[List.zipWith_comm];congr;funext a b;exact Nat.add_comm ..
theorem UD:∀(a b c:P'),Xg (Xg a b) c=Xg a (Xg b c)
 |[],_,_=>by simp[Xg]
 |_::_,[],_=>by simp[Xg]
 |_::_,_::_,[]=>by simp[Xg]
 |x::a,y::b,z::c=>by
  have d:=UD a b c;unfold Xg at d⊢;simp only[ZC,d,Nat.add_assoc]
theorem Vr {m n:P'}(a:L8 m)(b:L8 n):L8 (Xg m n):=by simp[L8,Xg,a,b]
theorem Vy {m n:P'}(a:L8 m)(b:L8 n):L8 (XQ m n):=by simp[L8,XQ,a,b]
theorem aB {m n:P'}(a:L8 m)(b:L8 n):L8 (XJ m n):=by simp[L8,XJ,a,b]
theorem Rz:∀{a b c:P'},a.length=b.length->a.length=c.length->Xg a b=Xg a c->b=c
 |[],[],[],_,_,_=>rfl
 |[],[],_::_,_,h,_=>by simp at h
 |[],_::_,_,h,_,_=>by simp at h
 |_::_,[],_,h,_,_=>by simp at h
 |_::_,_::_,[],_,h,_=>by simp at h
 |x::a,y::b,z::c,h1,h2,h=>by
  unfold Xg at h;simp only[ZC,ZH]at h;rw[show y=z by omega,Rz (a:=a) (b:=b) (c:=c) (by simpa using h1) (by simpa using h2) h.2]
theorem tV:∀(r:U') {k m:P'},k.length=m.length->wt r (Xg k m)=wt r k+wt r m
 |[],k,m,_=>by simp[wt]
 |w::r,[],[],_=>by simp[wt,Xg]
 |w::r,[],_::_,h=>by simp at h
 |w::r,_::_,[],h=>by simp at h
 |w::r,a::k,b::m,h=>by
  have c:=tV r (k:=k) (m:=m) (by simpa using h);unfold Xg at c⊢;simp only[ZC,wt,c,Int.natCast_add,Int.mul_add];omega
theorem nh:∀(o:M') {k m n:P'},L8 k->L8 m->L8 n->WX o (Xg k m) (Xg k n)=WX o m n
 |[],k,m,n,hk,hm,hn=>aL k m n (hk.trans hm.symm) (hm.trans hn.symm)
 |r::o,k,m,n,hk,hm,hn=>by
  have a:=nh o hk hm hn;simp only[WX,tV r (hk.trans hm.symm),tV r (hk.trans hn.symm),a,Int.add_lt_add_iff_left]
theorem WO.add {o:M'}{k m n:P'}(a:L8 k)(b:L8 m)(c:L8 n)(h:WO o m n):WO o (Xg k m) (Xg k n):=by
 unfold WO at h⊢;rw[nh o a c b];exact h
def ya (o:M')(m n:P'):Prop:=m=n\/WO o m n
theorem ya.add {o:M'}{k m n:P'}(a:L8 k)(b:L8 m)(c:L8 n)(h:ya o m n):ya o (Xg k m) (Xg k n):=by
 rcases h with rfl|h
 ·exact .inl rfl
 ·exact .inr (h.add a b c)
theorem ya.lt {o:M'}{l m n:P'}(b:L8 l)(c:L8 m)(d:L8 n)(h:ya o l m)(a:WO o m n):WO o l n:=by
 rcases h with rfl|h
 ·exact a
 ·exact h.trans b c d a
theorem WO.le {o:M'}{l m n:P'}(b:L8 l)(c:L8 m)(d:L8 n)(h:WO o l m)(a:ya o m n):WO o l n:=by
 rcases a with rfl|a
 ·exact h
 ·exact h.trans b c d a
structure Pl (f:Z'):Prop where
 dc:Om f
 q8:Q8 f
theorem Pl.nil:Pl []:=⟨.nil,fun _ h=>by cases h⟩
theorem Pl.uniq {f:Z'}(h:Pl f){s u:Qm}(c:s∈f)(d:u∈f)(e:u.2=s.2):u=s:=by
 have b:=h.dc.Ti s c;have a:=h.dc.Ti u d;rw[e,b]at a;exact Prod.ext a.symm e
theorem vb (o:M'):∀(a:Z') (b:Qm),V2 o b a∈b::a:=fun a b=>by
 rcases Pm o a b with h|h
 ·rw[h];exact Zc ..
 ·exact Zb _ h
theorem dJ (o:M'):∀(a:Z') (b:Qm),L8 b.2->(∀t∈a,L8 t.2)->∀u∈b::a,ya o u.2 (V2 o b a).2
 |[],b,hb,_,u,hu=>by
  simp only[Zj,ZV,or_false]at hu;subst hu;exact .inl rfl
 |t::a,b,hb,i,u,hu=>by
  have f:=i t (Zc ..);have c:∀t∈a,L8 t.2:=fun x j=>i x (Zb _ j)
  simp only[V2];by_cases g:WX o t.2 b.2=.ofNat 1
  ·rw[if_pos g];have e:=dJ o a t f c;have d:L8 (V2 o t a).2:=by
    rcases Pm o a t with h|h
    ·rw[h];exact f
    ·exact c _ h
   rcases Zj.1 hu with rfl|hu
   ·exact .inr (WO.le hb f d g (e t (Zc ..)))
   ·exact e u hu
  ·rw[if_neg g];have e:=dJ o a b hb c;have d:L8 (V2 o b a).2:=by
    rcases Pm o a b with h|h
    ·rw[h];exact hb
    ·exact c _ h
   rcases Zj.1 hu with rfl|hu
   ·exact e u (Zc ..)
   ·rcases Zj.1 hu with rfl|hu
    ·rcases WO.Kc o f hb with h|h|h
     ·exact .inr (WO.le f hb d h (e b (Zc ..)))
     ·rw[h];exact e b (Zc ..)
     ·exact absurd h g
    ·exact e u (Zb _ hu)
theorem XK {o:M'}{f:Z'}(a:Pl f){s:Qm}(h:XR o f=some s):s∈f/\L8 s.2/\s.1≠0/\∀u∈f,u=s\/WO o u.2 s.2:=by
 cases f with
 |nil=>cases h
 |cons t d=>
  simp only[XR,Za]at h;subst h;have b:=vb o d t;refine⟨b,a.q8 _ b,a.dc.nz _ b,fun u c=> ?_⟩;rcases dJ o d t (a.q8 _ (Zc ..)) (fun x e=>a.q8 x (Zb _ e)) u c with h|h
  ·exact .inl (a.uniq b c h)
  ·exact .inr h
theorem Td {o:M'}{f:Z'}(h:XR o f=none):f=[]:=by
 cases f with
 |nil=>rfl
 |cons t a=>cases h
theorem je {o:M'}{f:Z'}(a:Pl f){s:Qm}(h:XR o f=some s):∀u∈f,ya o u.2 s.2:=fun u b=>by
 rcases(XK a h).2.2.2 u b with h|h
 ·exact .inl (by rw[h])
 ·exact .inr h
def WW (n:P'):P'->Rat:=fun k=>if k=n then 1 else 0
theorem Wo (f:Z')(n:P'):SN f n=X2 f (WW n):=rfl
theorem Pd {f:Z'}{a:P'->Rat}(h:∀u∈f,a u.2=0):X2 f a=0:=by
 rw[Ua (ψ:=fun _=>0) h,Pb]
theorem iF {f:Z'}(a:Pl f){s:Qm}(b:s∈f){φ:P'->Rat}(h:∀u∈f,u=s\/φ u.2=0):X2 f φ=φ s.2*s.1:=by
 have:=a.dc.Ti s b;rw[<-this];unfold SN;rw[<-iE];apply Ua;intro t c;by_cases e:t.2=s.2
 ·rw[if_pos e,e];grind
 ·rw[if_neg e];rcases h t c with h|h
  ·exact absurd (by rw[h]) e
  ·rw[h];grind
abbrev Fn:=(P'->Rat)->Rat
inductive UF (o:M')(fs:S')(P:P'->Prop):Fn->Prop
 |zero {v:Fn} (h:∀φ,v φ=0):UF o fs P v
 |add {v w:Fn} {f:Z'} {s:Qm} {c:Rat} {m:P'} (hf:f∈fs) (hs:XR o f=some s) (hm:L8 m) (hP:P (Xg m s.2)) (hw:UF o fs P w) (hv:∀φ,v φ=w φ+c*X2 f fun k=>φ (Xg m k)):UF o fs P v
variable {o:M'}{fs:S'}{P Q:P'->Prop}{v w:Fn}
theorem UF.congr (h:UF o fs P v)(e:∀a,w a=v a):UF o fs P w:=by
 cases h with
 |zero h=>exact .zero fun a=>by rw[e,h]
 |add c f d b i g=>exact .add c f d b i fun a=>by rw[e,g]
theorem UF.mono (h:UF o fs P v)(k:∀n,P n->Q n):UF o fs Q v:=by
 induction h with
 |zero h=>exact .zero h
 |add b d c a g e f=>exact .add b d c (k _ a) f e
theorem UF.plus (h:UF o fs P v)(k:UF o fs P w):UF o fs P fun a=>v a+w a:=by
 induction h with
 |zero h=>exact k.congr fun a=>by rw[h];grind
 |@add v w f s c m d g e b l i j=>exact .add (c:=c) d g e b j fun a=>by rw[i];grind
theorem UF.smul (a:Rat)(h:UF o fs P v):UF o fs P fun b=>a*v b:=by
 induction h with
 |zero h=>exact .zero fun b=>by rw[h];grind
 |@add v w f s c m e i g d l j k=>exact .add (c:=a*c) e i g d k fun b=>by rw[j];grind
theorem UF.shift {d:P'}(e:L8 d)(i:∀f∈fs,Pl f)(h:UF o fs P v)(k:∀n,P n->Q (Xg d n)):UF o fs Q fun a=>v fun n=>a (Xg d n):=by
 induction h with
 |zero h=>exact .zero fun a=>h _
 |@add v w f s c m g l j b r p q=>
  refine .add (c:=c) g l (Vr e j) (by rw[UD];exact k _ b) q fun a=> ?_
  rw[p];simp only[UD]
theorem UF.one (e:∀f∈fs,Pl f){f:Z'}{s:Qm}{c:Rat}{m:P'}(d:f∈fs)(h:XR o f=some s)(g:L8 m)(b:P (Xg m s.2)):UF o fs P fun a=>c*X2 f fun k=>a (Xg m k):=
 .add (c:=c) d h g b (.zero fun _=>rfl) fun a=>by grind
theorem UF.prod {f:Z'}{s:Qm}(b:f∈fs)(d:XR o f=some s):∀{q:Z'},(∀u∈q,L8 u.2/\P (Xg u.2 s.2))->UF o fs P fun a=>X2 q fun m=>X2 f fun k=>a (Xg m k)
 |[],_=>.zero fun a=>rfl
 |u::q,h=>by
  have j:=UF.prod b d (q:=q) fun x i=>h x (Zb _ i)
  obtain⟨e,g⟩:=h u (Zc ..);exact .add (c:=u.1) b d e g j fun a=>by simp only[X2];grind
theorem UF.top (a:∀f∈fs,Pl f)(h:UF o fs P v){n:P'}(q:L8 n)(k:∀x,P x->WO o x n):v (WW n)=0:=by
 induction h with
 |zero h=>exact h _
 |@add v w f s c m d j g p B r t=>
  obtain⟨y,i,z,A⟩:=XK (a f d) j;rw[r,t,Pd]
  ·grind
  ·intro u l;have b:=(a f d).q8 u l;have e:WO o (Xg m u.2) n:=by
    have:=je (a f d) j u l;exact ya.lt (Vr g b) (Vr g i) q (this.add g b i) (k _ p)
   unfold WW;rw[if_neg e.ne]
theorem UF.join (q:∀f∈fs,Pl f){δ:P'}(y:∀n,P n->n=δ\/Q n)
  (u:∀f∈fs,∀g∈fs,∀s t m k,XR o f=some s->XR o g=some t->L8 m->L8 k->Xg m s.2=δ->Xg k t.2=δ->UF o fs Q fun a=>t.1*(X2 f fun n=>a (Xg m n))-s.1*X2 g fun n=>a (Xg k n))
  (h:UF o fs P v):UF o fs Q v\/∃f s m c w,f∈fs/\XR o f=some s/\L8 m/\Xg m s.2=δ/\UF o fs Q w/\∀a,v a=w a+c*X2 f fun k=>a (Xg m k):=by
 induction h with
 |zero h=>exact .inl (.zero h)
 |@add v w f s c m i l j x z p b=>
  rcases y _ x with e|hq
  ·rcases b with b|⟨f0,s0,m0,c0,w0,a1,a2,a3,a4,a5,a6⟩
   ·exact .inr ⟨f,s,m,c,w,i,l,j,e,b,p⟩
   ·have d:=u f i f0 a1 s s0 m m0 l a2 j a3 e a4;have r:=(XK (q f0 a1) a2).2.2.1;refine .inr ⟨f0,s0,m0,c0+c*s.1 / s0.1,_,a1,a2,a3,a4,a5.plus (d.smul (c / s0.1)),fun a=> ?_⟩;rw[p,a6];generalize (X2 f fun k=>a (Xg m k))=X;generalize (X2 f0 fun k=>a (Xg m0 k))=Y;have :c / s0.1*s0.1=c:=Rat.div_mul_cancel r;have e2:c*s.1 / s0.1=c / s0.1*s.1:=by rw[Rat.div_def,Rat.div_def];grind
    rw[e2];grind
  ·rcases b with b|⟨f0,s0,m0,c0,w0,a1,a2,a3,a4,a5,a6⟩
   ·exact .inl (.add i l j hq b p)
   ·exact .inr ⟨f0,s0,m0,c0,_,a1,a2,a3,a4,.add (v:=fun a=>w0 a+c*X2 f fun k=>a (Xg m k)) (c:=c) i l j hq a5 (fun a=>rfl),fun a=>by rw[p,a6];generalize (X2 f fun k=>a (Xg m k))=X;generalize (X2 f0 fun k=>a (Xg m0 k))=Y;generalize w0 a=Z;grind⟩
theorem UF.lead (i:∀f∈fs,Pl f){W:P'->Prop}(y:∀n,W n->L8 n)
  (A:∀δ,W δ->∀f∈fs,∀g∈fs,∀s t m k,XR o f=some s->XR o g=some t->L8 m->L8 k->Xg m s.2=δ->Xg k t.2=δ->UF o fs (fun n=>W n/\WO o n δ) fun I=>t.1*(X2 f fun n=>I (Xg m n))-s.1*X2 g fun n=>I (Xg k n)):
  ∀(l:J'),(∀n∈l,W n)->l.Pairwise (fun a b=>WO o b a)->(∀δ∈l,∀n,W n->WO o n δ->n∈l)->∀v:Fn,UF o fs (fun n=>n∈l) v->
   (∀n,L8 n->v (WW n)=0)\/∃δ f s,v (WW δ)≠0/\δ∈l/\(∀n,L8 n->WO o δ n->v (WW n)=0)/\f∈fs/\XR o f=some s/\Wn s.2 δ=true
 |[],_,_,_,v,h=>by
  refine .inl fun n _=> ?_
  cases h with
  |zero h=>exact h _
  |add _ _ _ R _ _=>cases R
 |δ::l,G,hp,L,v,h=>by
  obtain⟨H,Z⟩:=Zu.1 hp;have r:=y δ (G δ (Zc ..));have q:∀n∈l,W n:=fun n j=>G n (Zb _ j)
  have E:∀d∈l,∀n,W n->WO o n d->n∈l:=fun d F n j p=>by
   rcases Zj.1 (L d (Zb _ F) n j p)with rfl|h
   ·exact absurd (H d F) (p.asymm (y _ j) (y _ (q d F)))
   ·exact h
  have step:UF o fs (fun n=>n∈l) v->_:=fun D=>UF.lead i y A l q Z E v D
  rcases h.join (Q:=fun n=>n∈l) (δ:=δ) i (fun n j=>Zj.1 j) (fun f S g T s t m k X Y V U e1 e2=>(A δ (G δ (Zc ..)) f S g T s t m k X Y V U e1 e2).mono fun n j=>by
   rcases Zj.1 (L δ (Zc ..) n j.1 j.2)with rfl|h
   ·exact absurd j.2 WO.zD
   ·exact h)with D|⟨f,s,m,c,w,a1,a2,a3,a4,a5,a6⟩
  ·rcases step D with h|⟨d,f,s,b1,b2,b3⟩
   ·exact .inl h
   ·exact .inr ⟨d,f,s,b1,Zb _ b2,b3⟩
  ·by_cases z:c=0
   ·rcases step (a5.congr fun I=>by rw[a6,z];grind)with h|⟨d,f,s,b1,b2,b3⟩
    ·exact .inl h
    ·exact .inr ⟨d,f,s,b1,Zb _ b2,b3⟩
   ·obtain⟨N,J,O,P⟩:=XK (i f a1) a2;refine .inr ⟨δ,f,s,?_,Zc ..,fun n j p=> ?_,a1,a2,?_⟩
    ·rw[a6,a5.top i r H,iF (i f a1) N (fun u B=> ?_)]
     ·unfold WW;rw[a4,if_pos rfl];intro e;have :c*s.1=0:=by grind
      exact(Rat.mul_eq_zero.1 this).elim z O
     ·rcases P u B with h|h
      ·exact .inl h
      ·right;have:=h.add a3 ((i f a1).q8 u B) J;rw[a4]at this;unfold WW;rw[if_neg this.ne]
    ·rw[a6,a5.top i j (fun x M=>(H x M).trans (y _ (q x M)) r j p),Pd]
     ·grind
     ·intro u B;have C:=(i f a1).q8 u B;have K:=(je (i f a1) a2 u B).add a3 C J;rw[a4]at K;unfold WW;rw[if_neg (K.lt (Vr a3 C) r j p).ne]
    ·rw[<-a4,XW];exact Rw ..
end Go.Num
namespace Go.Num
open Go.Ev
structure Nz (ts:Z'):Prop where
 nd:(ts.map (·.2)).Nodup
 nz:∀t∈ts,t.1≠0
 q8:∀t∈ts,L8 t.2
theorem Nz.nil:Nz []:=⟨by simp,(fun _ h=>by cases h),(fun _ h=>by cases h)⟩
theorem Nz.tail {t:Qm}{b:Z'}(h:Nz (t::b)):Nz b:=⟨(List.nodup_cons.1 h.nd).2,fun x a=>h.nz x (Zb _ a),fun x a=>h.q8 x (Zb _ a)⟩
theorem Nz.Tj:∀{a:Z'},Nz a->∀t∈a,SN a t.2=t.1
 |u::a,h,t,ht=>by
  have b:=(List.nodup_cons.1 h.nd).1;rw[NO];rcases Zj.1 ht with rfl|ht
  ·rw[if_pos rfl,Pv fun x c e=>b (ZM.2 ⟨x,c,e⟩)];grind
  ·rw[if_neg (fun e=>b (ZM.2 ⟨t,ht,e.symm⟩)),h.tail.Tj t ht];grind
theorem Nz.mem {a:Z'}(h:Nz a){m:P'}(c:SN a m≠0):(SN a m,m)∈a:=by
 by_cases e:∃t∈a,t.2=m
 ·obtain⟨t,b,rfl⟩:=e;rw[h.Tj t b];exact b
 ·exact absurd (Pv fun t b d=>e ⟨t,b,d⟩) c
theorem Nz.same {c d:Z'}(h:Nz c)(k:Nz d)(e:∀m,L8 m->SN c m=SN d m){t:Qm}(b:t∈c):t∈d:=by
 have a:=h.Tj t b;rw[e _ (h.q8 t b)]at a;have:=k.mem (m:=t.2) (by rw[a];exact h.nz t b);rw[a]at this;exact this
theorem Pl.SQ {a:Z'}(h:Pl a):Nz a:=by
 refine⟨?_,h.dc.nz,h.q8⟩;rw[List.nodup_iff_pairwise_ne,List.pairwise_map];exact h.dc.pw.imp fun e=>o9 e
structure PO (o:M')(ts:Z'):Prop where
 pw:ts.Pairwise fun t u=>WO o u.2 t.2
 nz:∀t∈ts,t.1≠0
 q8:∀t∈ts,L8 t.2
variable {o:M'}
theorem PO.nil:PO o []:=⟨.nil,(fun _ h=>by cases h),(fun _ h=>by cases h)⟩
theorem PO.tail {t:Qm}{b:Z'}(h:PO o (t::b)):PO o b:=⟨(Zu.1 h.pw).2,fun x a=>h.nz x (Zb _ a),fun x a=>h.q8 x (Zb _ a)⟩
theorem PO.cons {t:Qm}{b:Z'}(h:PO o b)(h0:t.1≠0)(c:L8 t.2)(d:∀u∈b,WO o u.2 t.2):PO o (t::b):=
 ⟨Zu.2 ⟨d,h.pw⟩,fun x a=>by rcases Zj.1 a with rfl|a;exact h0;exact h.nz x a,fun x a=>by rcases Zj.1 a with rfl|a;exact c;exact h.q8 x a⟩
theorem PO.app {b c:Z'}(h:PO o b)(k:PO o c)(d:∀t∈b,∀u∈c,WO o u.2 t.2):PO o (b++c):=
 ⟨List.pairwise_append.2 ⟨h.pw,k.pw,d⟩,fun x a=>by rcases ZW.1 a with a|a;exact h.nz x a;exact k.nz x a,fun x a=>by rcases ZW.1 a with a|a;exact h.q8 x a;exact k.q8 x a⟩
theorem PO.SQ {a:Z'}(h:PO o a):Nz a:=by
 refine⟨?_,h.nz,h.q8⟩;rw[List.nodup_iff_pairwise_ne,List.pairwise_map];exact h.pw.imp fun e=>(WO.ne e).symm
theorem PO.dc {a:Z'}(h:PO [] a):Pl a:=⟨⟨h.nz,h.pw⟩,h.q8⟩
theorem RT (c:P'->Rat):∀(b a:Z'),X2 (b++a) c=X2 b c+X2 a c
 |[],a=>by simp only[ZF,X2];grind
 |t::b,a=>by simp only[ZU,X2,RT c b a];grind
theorem Pc {φ:P'->Rat}{a b:Z'}(h:a.Perm b):X2 a φ=X2 b φ:=by
 induction h with
 |nil=>rfl
 |cons x _ e=>simp only[X2,e]
 |swap x y l=>simp only[X2];grind
 |trans _ _ c d=>rw[c,d]
theorem xn {t:Qm}(h0:t.1≠0)(c:L8 t.2):∀{d:Z'},PO o d->(∀u∈d,u.2≠t.2)->PO o (sc o t d)
 |[],_,_=>PO.cons .nil h0 c fun _ h=>by cases h
 |u::us,h,hn=>by
  have b:=h.q8 u (Zc ..);have f:=xn h0 c h.tail fun x a=>hn x (Zb _ a)
  unfold sc;rcases WO.Kc o c b with h1|h1|h1
  ·have e:SR (WX o t.2 u.2) (.ofNat 0)=true:=by
    rw[Go.Proofs.YtidginchkjhobaaGreat.Pw.2 h1];rfl
   rw[e];refine PO.cons f (h.nz u (Zc ..)) b fun x a=> ?_
   rcases Zj.1 ((dK o t us).mem_iff.1 a)with rfl|a
   ·exact h1
   ·exact(Zu.1 h.pw).1 x a
  ·exact absurd h1.symm (hn u (Zc ..))
  ·have e:SR (WX o t.2 u.2) (.ofNat 0)=false:=by
    unfold WO at h1;rw[h1];rfl
   rw[e];refine PO.cons h h0 c fun x a=> ?_
   rcases Zj.1 a with rfl|a
   ·exact h1
   ·exact((Zu.1 h.pw).1 x a).trans (h.q8 x (Zb _ a)) b c h1
theorem U5:∀{a:Z'},Nz a->PO o (Vz o a)
 |[],_=>.nil
 |t::a,h=>by
  have c:=U5 h.tail;refine xn (h.nz t (Zc ..)) (h.q8 t (Zc ..)) c fun u b e=> ?_
  exact(List.nodup_cons.1 h.nd).1 (ZM.2 ⟨u,(WL o a).mem_iff.1 b,e⟩)
theorem bA (b:P'->Rat)(a:Z'):X2 (Vz o a) b=X2 a b:=Pc (WL o a)
theorem Pk {f:Z'}(c:Pl f){s:Qm}{k:Z'}(h:Vz o f=s::k):XR o f=some s:=by
 have d:=WL o f;rw[h]at d;have a:=U5 (o:=o) c.SQ;rw[h]at a;have b:s∈f:=d.mem_iff.1 (Zc ..);cases e:XR o f with
 |none=>rw[Td e]at b;cases b
 |some t=>
  obtain⟨g,i,l,j⟩:=XK c e;rcases j s b with rfl|h5
  ·rfl
  ·rcases Zj.1 (d.mem_iff.2 g)with rfl|h6
   ·exact absurd h5 WO.zD
   ·exact absurd h5 (((Zu.1 a.pw).1 t h6).asymm i (c.q8 s b))
theorem qz (o:M')(mm:P')(p:Z'):(VT o mm p).1++(VT o mm p).2=p:=Go.Proofs.YtidginchkjhobaaGreat.PF o mm p
theorem gI (mm:P'):∀{p:Z'},PO o p->L8 mm->(∀x∈(VT o mm p).1,WO o mm x.2)/\(∀x∈(VT o mm p).2,ya o x.2 mm)
 |[],_,_=>⟨(fun _ h=>by cases h),(fun _ h=>by cases h)⟩
 |s::p,h,hm=>by
  have c:=h.q8 s (Zc ..);unfold VT;by_cases d:WX o s.2 mm=.ofNat 1
  ·rw[if_pos d];obtain⟨e,f⟩:=gI mm h.tail hm;refine⟨fun x a=> ?_,f⟩;rcases Zj.1 a with rfl|a
   ·exact d
   ·exact e x a
  ·rw[if_neg d];refine⟨(fun _ h=>by cases h),fun x a=> ?_⟩;have b:ya o s.2 mm:=by
    rcases WO.Kc o c hm with h2|h2|h2
    ·exact .inr h2
    ·exact .inl h2
    ·exact absurd h2 d
   rcases Zj.1 a with rfl|a
   ·exact b
   ·exact .inr (((Zu.1 h.pw).1 x a).le (h.q8 x (Zb _ a)) c hm b)
theorem PO.sub {p q:Z'}(h:PO o p)(a:q.Sublist p):PO o q:=⟨h.pw.sublist a,fun t b=>h.nz t (a.subset b),fun t b=>h.q8 t (a.subset b)⟩
theorem lB {c:Rat}(c0:c≠0){m:P'}(Y:L8 m):∀(q p:Z'),PO o p->PO o q->
  PO o (TS o c m p q)/\(∀x∈TS o c m p q,(∃y∈p,y.2=x.2)\/∃u∈q,x.2=Xg u.2 m)/\∀g,X2 (TS o c m p q) g=X2 p g+c*X2 q fun k=>g (Xg k m)
 |[],p,hp,_=>⟨by rw[TS];exact hp,fun x d=>by rw[TS]at d;exact .inl ⟨x,d,rfl⟩,fun g=>by rw[TS];simp only[X2];grind⟩
 |t::q,p,hp,hq=>by
  have P:=hq.q8 t (Zc ..);have j:=Vr P Y;obtain⟨T,U⟩:=gI (Xg t.2 m) hp j;have f:=qz o (Xg t.2 m) p;have L:c*t.1≠0:=RJ c0 (hq.nz t (Zc ..));have N:∀u∈q,WO o (Xg u.2 m) (Xg t.2 m):=fun u D=>by
   have:=((Zu.1 hq.pw).1 u D).add Y (hq.q8 u (Zb _ D)) P
   rwa[XW m,XW m]at this
  have key:∀(R r:Z'),(VT o (Xg t.2 m) p).2=R->r.Sublist R->(∀x∈r,WO o x.2 (Xg t.2 m))->PO o (TS o c m r q)/\(∀x∈TS o c m r q,WO o x.2 (Xg t.2 m))/\(∀x∈TS o c m r q,(∃y∈p,y.2=x.2)\/∃u∈q,x.2=Xg u.2 m)/\∀g,X2 (TS o c m r q) g=X2 r g+c*X2 q fun k=>g (Xg k m):=by
   intro R r hR hs W;have K:r.Sublist p:=by rw[<-f,hR];exact hs.trans (List.sublist_append_right ..)
   obtain⟨E,n,F⟩:=lB c0 Y q r (hp.sub K) hq.tail;refine⟨E,fun x d=> ?_,fun x d=> ?_,F⟩
   ·rcases n x d with⟨y,hy,e⟩|⟨u,D,e⟩
    ·rw[<-e];exact W y hy
    ·rw[e];exact N u D
   ·rcases n x d with⟨y,hy,e⟩|⟨u,D,e⟩
    ·exact .inl ⟨y,K.subset hy,e⟩
    ·exact .inr ⟨u,D,e⟩
  have w:(VT o (Xg t.2 m) p).1.Sublist p:=by
   have:=List.sublist_append_left (VT o (Xg t.2 m) p).1 (VT o (Xg t.2 m) p).2
   rwa[f]at this
  have l:∀g,X2 p g=X2 (VT o (Xg t.2 m) p).1 g+X2 (VT o (Xg t.2 m) p).2 g:=fun g=>by
   rw[<-RT,f]
  unfold TS;generalize a1:VT o (Xg t.2 m) p=sp at T U f key w l;obtain⟨os,R⟩:=sp;simp only at T U f key w l;have A:=hp.sub w;have v:∀(X:Z'),PO o X->(∀x∈X,ya o x.2 (Xg t.2 m))->PO o (os++X):=fun X hX V=>A.app hX fun a ha b hb=>(V b hb).lt (hX.q8 b hb) j (A.q8 a ha) (T a ha)
  have Q:∀(X:Z'),(∀x∈X,(∃y∈p,y.2=x.2)\/∃u∈t::q,x.2=Xg u.2 m)->∀x∈os++X,(∃y∈p,y.2=x.2)\/∃u∈t::q,x.2=Xg u.2 m:=fun X h x d=>by
   rcases ZW.1 d with d|d
   ·exact .inl ⟨x,w.subset d,rfl⟩
   ·exact h x d
  have S:∀{x:Qm},((∃y∈p,y.2=x.2)\/∃u∈q,x.2=Xg u.2 m)->(∃y∈p,y.2=x.2)\/∃u∈t::q,x.2=Xg u.2 m:=fun h=>by
   rcases h with h|⟨u,D,e⟩
   ·exact .inl h
   ·exact .inr ⟨u,Zb _ D,e⟩
  have i:∀(z:Rat),(∃y∈p,y.2=((z,Xg t.2 m):Qm).2)\/∃u∈t::q,((z,Xg t.2 m):Qm).2=Xg u.2 m:=fun z=>.inr ⟨t,Zc ..,rfl⟩
  cases R with
  |nil=>
   obtain⟨E,n,F,J⟩:=key [] [] rfl (List.Sublist.refl _) (fun _ h=>by cases h);refine⟨v _ (E.cons L j n) fun x d=> ?_,Q _ fun x d=> ?_,fun g=> ?_⟩
   ·rcases Zj.1 d with rfl|d
    ·exact .inl rfl
    ·exact .inr (n x d)
   ·rcases Zj.1 d with rfl|d
    ·exact i _
    ·exact S (F x d)
   ·rw[RT,l];simp only[X2,J];grind
  |cons s G=>
   have C:=U s (Zc ..);have H:(s::G).Sublist p:=by
    have:=List.sublist_append_right os (s::G)
    rwa[f]at this
   have I:=hp.sub H;have Z:∀x∈G,WO o x.2 s.2:=(Zu.1 I.pw).1;have a0:=I.q8 s (Zc ..);have B:∀x∈G,WO o x.2 (Xg t.2 m):=fun x d=>(Z x d).le (I.q8 x (Zb _ d)) a0 j C
   by_cases M:s.2=Xg t.2 m
   ·simp only[M,if_true];obtain⟨E,n,F,J⟩:=key (s::G) G rfl (List.sublist_cons_self ..) B;by_cases h0:s.1+c*t.1=0
    ·rw[if_pos h0];refine⟨v _ E fun x d=>.inr (n x d),Q _ fun x d=>S (F x d),fun g=> ?_⟩;rw[RT,l];simp only[X2,J,M];have :s.1*g (Xg t.2 m)+c*t.1*g (Xg t.2 m)=0:=by rw[<-Rat.add_mul,h0,Rat.zero_mul]
     grind
    ·rw[if_neg h0];refine⟨v _ (E.cons h0 j n) fun x d=> ?_,Q _ fun x d=> ?_,fun g=> ?_⟩
     ·rcases Zj.1 d with rfl|d
      ·exact .inl rfl
      ·exact .inr (n x d)
     ·rcases Zj.1 d with rfl|d
      ·exact i _
      ·exact S (F x d)
     ·rw[RT,l];simp only[X2,J,M];grind
   ·simp only[M,if_false];have O:WO o s.2 (Xg t.2 m):=C.resolve_left M;obtain⟨E,n,F,J⟩:=key (s::G) (s::G) rfl (List.Sublist.refl _) (fun x d=>by
     rcases Zj.1 d with rfl|d
     ·exact O
     ·exact B x d)
    refine⟨v _ (E.cons L j n) fun x d=> ?_,Q _ fun x d=> ?_,fun g=> ?_⟩
    ·rcases Zj.1 d with rfl|d
     ·exact .inl rfl
     ·exact .inr (n x d)
    ·rcases Zj.1 d with rfl|d
     ·exact i _
     ·exact S (F x d)
    ·rw[RT,l];simp only[X2,J];grind
end Go.Num
namespace Go.Num
open Go.Ev
def WB:P'->P'->Nat
 |w::ws,e::es=>w*e+WB ws es
 |_,_=>0
theorem W1:∀(w:P') {m n:P'},m.length=n.length->WB w (Xg m n)=WB w m+WB w n
 |[],m,n,_=>by simp[WB]
 |a::w,[],[],_=>by simp[WB,Xg]
 |a::w,[],_::_,h=>by simp at h
 |a::w,_::_,[],h=>by simp at h
 |a::w,x::m,y::n,h=>by
  have b:=W1 w (m:=m) (n:=n) (by simpa using h)
  grind [Xg,ZC,WB]
theorem AJ:∀{w m:P'},w.length=m.length->(∀a∈w,0<a)->∀e∈m,e<=WB w m
 |[],[],_,_,e,he=>by cases he
 |[],_::_,h,_,_,_=>by simp at h
 |a::w,x::m,h,hw,e,he=>by
  have c:=hw a (Zc ..);simp only[WB];rcases Zj.1 he with rfl|he
  ·have:=Nat.le_mul_of_pos_left e c;omega
  ·have:=AJ (w:=w) (m:=m) (by simpa using h) (fun b d=>hw b (Zb _ d)) e he;omega
def allM:P'->Nat->J'
 |[],_=>[[]]
 |a::w,W=>(List.range (W / a+1)).flatMap fun e=>(allM w (W-a*e)).map (e:: ·)
theorem TF:∀{w m:P'} {W:Nat},w.length=m.length->(∀a∈w,0<a)->WB w m<=W->m∈allM w W
 |[],[],_,_,_,_=>Zc ..
 |[],_::_,_,h,_,_=>by simp at h
 |a::w,[],_,h,_,_=>by simp at h
 |a::w,x::m,W,h,hw,hle=>by
  have c:=hw a (Zc ..);simp only[WB]at hle;unfold allM;refine Ys.2 ⟨x,List.mem_range.2 ?_,ZM.2 ⟨m,TF (by simpa using h) (fun b d=>hw b (Zb _ d)) (by omega),rfl⟩⟩;have :x<=W / a:=(Nat.le_div_iff_mul_le c).2 (by rw[ZR];omega);omega
theorem Nf:∀{w m:P'} {W:Nat},m∈allM w W->(∀a∈w,0<a)->m.length=w.length/\WB w m<=W
 |[],m,_,h,_=>by
  simp only[allM,Zj,ZV,or_false]at h;subst h;exact⟨rfl,Zw _⟩
 |a::w,m,W,h,hw=>by
  have j:=hw a (Zc ..);unfold allM at h;obtain⟨e,k,f⟩:=Ys.1 h;obtain⟨l,c,rfl⟩:=ZM.1 f;obtain⟨g,i⟩:=Nf c fun b d=>hw b (Zb _ d)
  grind [Nat.le_div_iff_mul_le,WB]
def uQ:P'->Nat->Nat
 |[],_=>1
 |a::w,W=>(W / a+1)*uQ w W
theorem dE:∀(w:P') {V W:Nat},V<=W->uQ w V<=uQ w W
 |[],_,_,_=>Ze _
 |a::w,V,W,h=>ZT (by simp_all [Nat.div_le_div_right]) (dE w h)
theorem bX {a d:Type}(f:a->List d)(c:Nat):∀(l:List a),(∀x∈l,(f x).length<=c)->(l.flatMap f).length<=l.length*c
 |[],_=>by simp
 |x::l,h=>by
  have e:=bX f c l fun y b=>h y (Zb _ b)
  grind [Nat.succ_mul]
theorem tz:∀(w:P') (W:Nat),(allM w W).length<=uQ w W
 |[],_=>Ze _
 |a::w,W=>by
  unfold allM uQ;refine Zx (bX _ (uQ w W) _ fun e _=> ?_) (by grind);rw[ZP];exact Zx (tz w _) (dE w (Nat.sub_le ..))
def kN (o:M')(m:P'):J'->J'
 |[]=>[m]
 |n::l=>if WX o m n=.ofNat 1 then m::n::l else if m=n then n::l else n::kN o m l
def SO (o:M'):J'->J'
 |[]=>[]
 |m::l=>kN o m (SO o l)
variable {o:M'}
theorem iY {m x:P'}:∀{l:J'},x∈kN o m l↔x=m\/x∈l
 |[]=>by simp[kN]
 |n::l=>by
  unfold kN;split
  ·simp
  ·split
   ·grind
   ·simp only[Zj,iY (l:=l)]
    grind
theorem WS {x:P'}:∀{l:J'},x∈SO o l↔x∈l
 |[]=>by simp[SO]
 |m::l=>by simp only[SO,iY,WS (l:=l),Zj]
theorem sh (m:P'):∀(l:J'),(kN o m l).length<=l.length+1
 |[]=>by simp[kN]
 |n::l=>by
  have a:=sh m l
  grind [kN]
theorem Np:∀(l:J'),(SO o l).length<=l.length
 |[]=>by simp[SO]
 |m::l=>by
  have:=sh (o:=o) m (SO o l);have:=Np l
  grind [SO]
abbrev DP (o:M')(l:J'):Prop:=l.Pairwise fun a b=>WO o b a
theorem xp {m:P'}(d:L8 m):∀{l:J'},DP o l->(∀n∈l,L8 n)->DP o (kN o m l)
 |[],_,_=>List.pairwise_singleton ..
 |n::l,h,h8=>by
  have f:=h8 n (Zc ..);have e:∀x∈l,L8 x:=fun x a=>h8 x (Zb _ a)
  obtain⟨g,i⟩:=Zu.1 h;unfold kN;by_cases b:WX o m n=.ofNat 1
  ·rw[if_pos b];refine Zu.2 ⟨fun x a=> ?_,h⟩;rcases Zj.1 a with rfl|a
   ·exact b
   ·exact(g x a).trans (e x a) f d b
  ·rw[if_neg b];by_cases c:m=n
   ·rw[if_pos c];exact h
   ·rw[if_neg c];refine Zu.2 ⟨fun x a=> ?_,xp d i e⟩;rcases iY.1 a with rfl|a
    ·rcases WO.Kc o d f with h|h|h
     ·exact h
     ·exact absurd h c
     ·exact absurd h b
    ·exact g x a
theorem aY:∀{l:J'},(∀n∈l,L8 n)->DP o (SO o l)
 |[],_=>.nil
 |m::l,h=>xp (h m (Zc ..)) (aY fun x b=>h x (Zb _ b)) fun n a=>h n (Zb _ (WS.1 a))
theorem PO.dH:∀{l:J'} {p:Z'},DP o l->(∀n∈l,L8 n)->PO o p->(∀t∈p,t.2∈l)->p.length<=l.length
 |[],[],_,_,_,_=>Ze _
 |[],t::p,_,_,_,h=>by grind
 |δ::l,[],_,_,_,_=>Zw _
 |δ::l,t::p,hl,h8,hp,h=>by
  obtain⟨f,g⟩:=Zu.1 hl;have a:∀n∈l,L8 n:=fun n d=>h8 n (Zb _ d)
  have :∀u∈p,u.2∈l:=fun u c=>by
   have b:=(Zu.1 hp.pw).1 u c;rcases Zj.1 (h u (Zb _ c))with e|e
   ·rcases Zj.1 (h t (Zc ..))with e2|e2
    ·grind [WO.zD]
    ·rw[e]at b;exact absurd b ((f _ e2).asymm (a _ e2) (h8 δ (Zc ..)))
   ·exact e
  have:=PO.dH g a hp.tail this
  grind
def Cf (C:Nat)(ts:Z'):Prop:=∃D:Nat,0<D/\D<=C/\∀t∈ts,∃z:Int,t.1*(D:Rat)=(z:Rat)/\z.natAbs<=C
theorem Cf.sub {C:Nat}{a b:Z'}(h:Cf C a)(f:∀t∈b,t∈a):Cf C b:=by
 obtain⟨D,c,d,e⟩:=h;exact⟨D,c,d,fun t g=>e t (f t g)⟩
theorem EP (x:Rat):(x.num:Rat)=x*(x.den:Rat):=by
 have h:(x.den:Rat)≠0:=by
  intro h;exact x.den_nz (by exact_mod_cast h)
 grind [Rat.mkRat_self,Rat.mkRat_eq_div]
theorem BH {x:Rat}{D:Nat}(a:0<D){z:Int}(h:x*(D:Rat)=(z:Rat)):x.num.natAbs<=z.natAbs/\x.den<=D:=by
 have g:(x.num:Rat)*D=z*x.den:=by
  grind [EP]
 have d:x.num*(D:Int)=z*(x.den:Int):=by
  have :((x.num*(D:Int):Int):Rat)=((z*(x.den:Int):Int):Rat):=by
   rw[YM,YM];exact g
  exact Rat.intCast_inj.1 this
 have f:x.num.natAbs*D=z.natAbs*x.den:=by
  have:=congrArg Int.natAbs d
  grind [Yq]
 have b:x.den ∣ D:=by
  have :x.den ∣ x.num.natAbs*D:=⟨z.natAbs,by rw[f,ZR]⟩;exact Nat.Coprime.dvd_of_dvd_mul_left (Nat.Coprime.symm x.reduced) this
 obtain⟨e,rfl⟩:=b;refine⟨?_,Nat.le_of_dvd a ⟨e,rfl⟩⟩;have c:0<e:=by
  grind
 have :x.num.natAbs*e=z.natAbs:=by
  apply Nat.eq_of_mul_eq_mul_right x.den_pos
  grind
 rw[<-this];exact YU _ c
end Go.Num
namespace Go.Proofs.YtidginchkjhobaaGreat
open Go.Ev Go.Num
theorem Sq.of {x:Rat}{k:Nat}(c:k<200000000000)(a:x.num.natAbs<4294967296^k)(b:x.den<4294967296^k):Sq x:=by
 have:=VK a;have:=VK b;exact⟨by omega,by omega⟩
def Bq (k:Nat)(x:Rat):Prop:=x.num.natAbs<4294967296^k/\x.den<4294967296^k
theorem Bq.sq {x:Rat}{k:Nat}(h:Bq k x)(a:k<200000000000):Sq x:=Sq.of a h.1 h.2
theorem Bq.le {x:Rat}{D k C:Nat}(a:0<D){z:Int}(h:x*(D:Rat)=(z:Rat))(d:D<=C)(e:z.natAbs<=C)(f:C<4294967296^k):Bq k x:=by
 obtain⟨b,c⟩:=BH a h;exact⟨by omega,by omega⟩
theorem Sq.le {x:Rat}{D k C:Nat}(e:k<200000000000)(d:0<D){z:Int}(h:x*(D:Rat)=(z:Rat))(a:D<=C)(b:z.natAbs<=C)(c:C<4294967296^k):Sq x:=(Bq.le d h a b c).sq e
theorem Gv {C k:Nat}{a:Z'}(f:k<200000000000)(h:Cf C a)(e:C<4294967296^k):Sz a:=by
 obtain⟨D,b,c,d⟩:=h;intro t g
 grind [Sq.le]
abbrev ez (w:P')(W:Nat)(m:P'):Prop:=L8 m/\WB w m<=W
theorem ez.ok {w m:P'}{W:Nat}(h:ez w W m)(b:w.length=8)(d:∀a∈w,0<a)(f:W<=65535):XD m:=
 ⟨h.1,fun e c=>by have:=AJ (b.trans h.1.symm) d e c;have:=h.2;omega⟩
structure Ol (o:M')(w:P')(a:Nat)(fs:S')(d:Dv):Prop where
 mem:d.2.1∈fs
 pl:Pl d.2.1
 ld:XR o d.2.1=some d.1
 po:PO o (d.1::d.2.2.1)
 perm:(d.1::d.2.2.1).Perm d.2.1
 cd:∃k:Nat,0<k/\k<=a/\∀u∈d.2.1,∃y:Int,u.1*(k:Rat)=(y:Rat)/\y.natAbs<=a
 wl:∀u∈d.2.1,WB w u.2<=WB w d.1.2
 len:d.2.1.length<50000
structure Cx (o:M')(w:P')(W a k:Nat)(fs:S')(ds:List Dv):Prop where
 w8:w.length=8
 wp:∀x∈w,0<x
 Le:W<=65535
 dv:∀d∈ds,Ol o w a fs d
 a1:1<=a
 k7:k<200000000000
 EU:∀f∈fs,Pl f
theorem ET {p:Z'}(a:Nz p)(n:P'):X2 p (WW n)=0\/∃u∈p,u.2=n/\X2 p (WW n)=u.1:=by
 by_cases h:X2 p (WW n)=0
 ·exact .inl h
 ·exact .inr ⟨_,a.mem (m:=n) h,rfl,rfl⟩
theorem od:∀{q:Z'},Nz q->∀{m n:P'},L8 m->(X2 q (fun k=>WW n (Xg k m))=0\/∃u∈q,Xg u.2 m=n/\X2 q (fun k=>WW n (Xg k m))=u.1)
 |[],_,_,_,_=>.inl rfl
 |u::q,h,m,n,hm=>by
  by_cases b:Xg u.2 m=n
  ·right;refine⟨u,Zc ..,b,?_⟩;have :X2 q (fun k=>WW n (Xg k m))=0:=Pd fun x a=>by
    unfold WW;rw[if_neg];intro e;have d:=h.q8 x (Zb _ a);have c:=h.q8 u (Zc ..);have :x.2=u.2:=by
     grind [XW,Rz]
    exact(List.nodup_cons.1 h.nd).1 (ZM.2 ⟨x,a,this⟩)
   simp only[X2,this]
   grind [WW]
  ·have e:X2 (u::q) (fun k=>WW n (Xg k m))=X2 q (fun k=>WW n (Xg k m)):=by
    simp only[X2]
    grind [WW]
   rw[e];rcases od h.tail hm with h1|⟨x,a,h1,h2⟩
   ·exact .inl h1
   grind
theorem gV (y:Int)(h:y≠0):∃e:Int,((y.natAbs:Nat):Rat)=((e*y:Int):Rat)/\e.natAbs=1:=by
 rcases Int.natAbs_eq y with h1|h1
 ·exact⟨1,by grind [YV],rfl⟩
 ·refine⟨-1,?_,rfl⟩;rw[<-YV];congr 1;omega
structure JV (o:M')(a C:Nat)(fs:S')(δ:P')(l:J')(t:Qm)(p:Z')(d:Dv)(k:Nat):Prop where
 po:PO o (TS o (-(XZ t d.1).1) (XZ t d.1).2 p d.2.2.1)
 mem:∀x∈TS o (-(XZ t d.1).1) (XZ t d.1).2 p d.2.2.1,x.2∈l
 cf:Cf (2*a*C) (TS o (-(XZ t d.1).1) (XZ t d.1).2 p d.2.2.1)
 c1:QO p
 c3:Sq t.1
 c4:Sq d.1.1
 c5:Bq k (XZ t d.1).1
 c6:QO d.2.2.1
 c7:∀u∈d.2.2.1,XD (Xg u.2 (XZ t d.1).2)/\u.1≠0/\Sq (-(XZ t d.1).1*u.1)
 c8:d.1.1≠0
 c9:(XZ t d.1).1≠0
 m8:L8 (XZ t d.1).2
 ms:Xg (XZ t d.1).2 d.1.2=δ
 eq:∀φ,X2 (t::p) φ=X2 (TS o (-(XZ t d.1).1) (XZ t d.1).2 p d.2.2.1) φ+(XZ t d.1).1*X2 d.2.1 fun n=>φ (Xg (XZ t d.1).2 n)
theorem step {o:M'}{w:P'}{W a k:Nat}{fs:S'}{ds:List Dv}(i:Cx o w W a k fs ds){s:P'}{l:J'}(c1:ez w W s)(Y:∀n∈l,L8 n)(b7:∀n∈l,WO o n s)(b1:∀n,ez w W n->WO o n s->n∈l)(Z:DP o l)(b6:l.length<50000)
  {t:Qm} {p:Z'} (hp:PO o (t::p)) (ht:t.2=s) (hm:∀u∈p,u.2∈l) {C:Nat} (hC:Cf C (t::p)) (r:C*a<4294967296^k) (S:1<=C) {d:Dv} (hd:d∈ds) (b3:Wn d.1.2 s=true):JV o a C fs s l t p d k:=by
 have D:=i.dv d hd;have a1:=i.a1;obtain⟨s1,s2,s3,s4⟩:=XK D.pl D.ld;have a0:Xg (XZ t d.1).2 d.1.2=s:=by
  show Xg (XQ t.2 d.1.2) d.1.2=s
  grind [XW,W6]
 have g:L8 (XZ t d.1).2:=by
  show L8 (XQ t.2 d.1.2)
  grind [Vy]
 have A:=hp.tail;have M:=D.po.tail;have j:∀u∈d.2.2.1,u∈d.2.1:=fun u b=>D.perm.mem_iff.1 (Zb _ b)
 have b9:WB w (XZ t d.1).2+WB w d.1.2<=W:=by
  grind [W1]
 have a3:∀u∈d.2.2.1,ez w W (Xg u.2 (XZ t d.1).2)/\WO o (Xg u.2 (XZ t d.1).2) s:=fun u b=>by
  have G:=M.q8 u b;have h1:=D.wl u (j u b);have h2:=(Zu.1 D.po.pw).1 u b;refine⟨⟨Vr G g,by grind [W1]⟩,?_⟩;have:=h2.add g G s2
  grind [XW]
 have c0:t.1≠0:=hp.nz t (Zc ..);have F:(XZ t d.1).1≠0:=by
  show t.1 / d.1.1≠0
  grind
 have b2:(XZ t d.1).1*d.1.1=t.1:=Rat.div_mul_cancel s3;have a2: -(XZ t d.1).1≠0:=fun h=>F (by grind)
 obtain⟨g1,g2,g3⟩:=lB (o:=o) a2 g d.2.2.1 p A M;have X:∀Q,X2 (t::p) Q=X2 (TS o (-(XZ t d.1).1) (XZ t d.1).2 p d.2.2.1) Q+(XZ t d.1).1*X2 d.2.1 fun n=>Q (Xg (XZ t d.1).2 n):=fun Q=>by
  rw[g3,<-Pc D.perm]
  grind [X2,Ua,XW]
 obtain⟨E,e1,e2,R⟩:=hC;obtain⟨q,q1,q2,O⟩:=D.cd;obtain⟨P,a7,c3⟩:=R t (Zc ..);obtain⟨c,c2,a6⟩:=O d.1 s1;have b8:(q:Rat)≠0:=by
  intro h;have :q=0:=by exact_mod_cast h
  omega
 have H:c≠0:=by
  intro h
  simp_all [Rat.mul_eq_zero]
 obtain⟨e,b4,b5⟩:=gV c H;have I:0<c.natAbs:=Int.natAbs_pos.2 H;have v:0<E*c.natAbs:=Yi e1 I;have f:E*c.natAbs<=C*a:=ZT e2 a6;have T:((E*c.natAbs:Nat):Rat)=(E:Rat)*((e:Rat)*(c:Rat)):=by
  grind
 have V:(XZ t d.1).1*((E*c.natAbs:Nat):Rat)=((e*P*(q:Int):Int):Rat):=by
  grind [YV]
 have U:∀{u:Qm} {y:Int},u.1*(q:Rat)=(y:Rat)->(XZ t d.1).1*u.1*((E*c.natAbs:Nat):Rat)=((e*P*y:Int):Rat):=fun{u y} hy=>by
  grind
 have b0:∀{y:Int},y.natAbs<=a->(e*P*y).natAbs<=C*a:=fun{y} hy=>by
  simp_all [Yq,ZT]
 have a8:C<=C*a:=YU _ a1;have a9:a<=C*a:=Nat.le_mul_of_pos_left _ S;have a5:Sz p:=Gv i.k7 (C:=C) ⟨E,e1,e2,fun x N=>R x (Zb _ N)⟩ (by omega);have L:∀u∈d.2.1,Sq u.1:=fun u b=>by
  obtain⟨y,B,y2⟩:=O u b;exact Sq.le i.k7 q1 B (by omega:q<=C*a) (by omega) r
 have K:d.2.2.1.length<50000:=by
  have:=D.perm.length_eq;have:=D.len
  grind
 have J:p.length<50000:=by
  have:=PO.dH Z Y A hm;omega
 refine⟨g1,fun x N=> ?_,?_,⟨a5,J⟩,?_,L d.1 s1,?_,⟨fun u b=>L u (j u b),K⟩,fun u b=>⟨(a3 u b).1.ok i.w8 i.wp i.Le,M.nz u b,?_⟩,s3,F,g,a0,X⟩
 ·grind
 ·refine⟨E*c.natAbs,v,by grind,fun x N=> ?_⟩;have a4:=g1.SQ.Tj x N;rw[Wo,g3]at a4;have p1:∃z:Int,X2 p (WW x.2)*((E*c.natAbs:Nat):Rat)=(z:Rat)/\z.natAbs<=C*a:=by
   rcases ET A.SQ x.2 with h|⟨u,b,-,h⟩
   ·exact⟨0,by grind,Zw _⟩
   ·obtain⟨z,z1,z2⟩:=R u (Zb _ b);refine⟨z*c.natAbs,by grind [YV],?_⟩
    simp_all [Yq,ZT]
  have p2:∃z:Int,(XZ t d.1).1*(X2 d.2.2.1 fun k=>WW x.2 (Xg k (XZ t d.1).2))*((E*c.natAbs:Nat):Rat)=(z:Rat)/\z.natAbs<=C*a:=by
   rcases od M.SQ (m:=(XZ t d.1).2) (n:=x.2) g with h|⟨u,b,-,h⟩
   ·exact⟨0,by grind,Zw _⟩
   ·obtain⟨y,B,y2⟩:=O u (j u b)
    grind
  obtain⟨z1,z2,z3⟩:=p1;obtain⟨B,y2,y3⟩:=p2;refine⟨z1-B,?_,?_⟩
  ·grind
  grind
 ·exact Sq.le i.k7 e1 a7 (by omega:E<=C*a) (by omega) r
 ·refine Bq.le v V f ?_ r
  grind
 ·obtain⟨y,B,y2⟩:=O u (j u b);have:=U B;refine Sq.le (z:= -(e*P*y)) i.k7 v ?_ f ?_ r
  ·grind
  grind
structure F4 (o:M')(w:P')(W:Nat)(l:J'):Prop where
 dc:DP o l
 xh:∀n∈l,ez w W n
 cl:∀δ∈l,∀n,ez w W n->WO o n δ->n∈l
theorem F4.tail {o:M'}{w:P'}{W:Nat}{i:P'}{l:J'}(h:F4 o w W (i::l)):F4 o w W l:=by
 obtain⟨f,g⟩:=Zu.1 h.dc;have a:∀n∈l,ez w W n:=fun n c=>h.xh n (Zb _ c)
 refine⟨g,a,fun d e n c b=> ?_⟩;rcases Zj.1 (h.cl d (Zb _ e) n c b)with rfl|h1
 ·exact absurd b ((f d e).asymm (a d e).1 c.1)
 ·exact h1
structure QI (o:M')(ds:List Dv)(l:J')(tq:S'):Prop where
 len:tq.length=ds.length
 at_:∀(j:Nat) (q:Z') (d:Dv),tq[j]? =some q->ds[j]? =some d->Nz q/\Sz q/\(∀u∈q,∀x∈l,WO o x (Xg u.2 d.1.2))/\q.length+l.length<50000
structure RI (o:M')(ds:List Dv)(l:J')(tr:Z'):Prop where
 SQ:Nz tr
 sz:Sz tr
 lt:∀u∈tr,∀x∈l,WO o x u.2
 len:tr.length+l.length<50000
 nd:∀u∈tr,∀d∈ds,Wn d.1.2 u.2=false
theorem QI.sub {o:M'}{g:List Dv}{l f:J'}{i:S'}(h:QI o g l i)(n:∀x∈f,x∈l)(s:f.length<=l.length):QI o g f i:=
 ⟨h.len,fun j q d k m=>by
  obtain⟨a,b,c,e⟩:=h.at_ j q d k m;exact⟨a,b,fun u p x r=>c u p x (n x r),by omega⟩⟩
theorem RI.sub {o:M'}{b:List Dv}{l a:J'}{c:Z'}(h:RI o b l c)(d:∀x∈a,x∈l)(g:a.length<=l.length):RI o b a c:=
 ⟨h.SQ,h.sz,fun u e x f=>h.lt u e x (d x f),by have:=h.len;omega,h.nd⟩
theorem wQ {q:Z'}{t:Qm}(h:Nz q)(h0:t.1≠0)(e:L8 t.2)(g:∀u∈q,u.2≠t.2):Nz (q++[t]):=by
 refine⟨?_,fun x c=> ?_,fun x c=> ?_⟩
 ·rw[List.map_append];refine List.nodup_append.2 ⟨h.nd,by simp,fun a f b d=> ?_⟩;obtain⟨u,i,rfl⟩:=ZM.1 f;simp only[Zt,ZN,Zj,ZV,or_false]at d;subst d;exact g u i
 ·rcases ZW.1 c with c|c
  ·exact h.nz x c
  ·simp only[Zj,ZV,or_false]at c;subst c;exact h0
 ·rcases ZW.1 c with c|c
  ·exact h.q8 x c
  ·simp only[Zj,ZV,or_false]at c;subst c;exact e
theorem Sz.snoc {q:Z'}{t:Qm}(h:Sz q)(b:Sq t.1):Sz (q++[t]):=fun x a=>by
 rcases ZW.1 a with a|a
 ·exact h x a
 ·simp only[Zj,ZV,or_false]at a;subst a;exact b
theorem rh {C a:Nat}(n:Nat):2*a*C*(2*a)^n*a=C*(2*a)^(n+1)*a:=by
 rw[ZQ,ZR (2*a) C,Z3 C,ZR ((2*a)^n)]
theorem Hq {a:Nat}(h:1<=a)(n:Nat):1<=(2*a)^n:=Nat.pos_of_ne_zero (by
 intro e;have:=Nat.pow_eq_zero.1 e;omega)
theorem wD {C a:Nat}(h:1<=a)(n:Nat):C*(2*a)^n*a<=C*(2*a)^(n+1)*a:=by
 apply Zn;apply Yb;rw[ZQ];exact YU _ (by omega)
theorem wE {C a:Nat}(h:1<=a)(n:Nat):C*a<=C*(2*a)^n*a:=by
 apply Zn;exact YU _ (Hq h n)
theorem ri {o:M'}{w:P'}{W:Nat}{c:P'}{l:J'}(d:F4 o w W (c::l)){t:Qm}{p:Z'}(i:PO o (t::p))(f:∀u∈t::p,u.2∈c::l):(∀u∈p,u.2∈l)/\(t.2≠c->∀u∈t::p,u.2∈l):=by
 have j:=(Zu.1 d.dc).1;have h:=d.xh c (Zc ..);have key:∀u∈p,u.2∈l:=fun u b=>by
  have a:=(Zu.1 i.pw).1 u b;rcases Zj.1 (f u (Zb _ b))with e|e
  ·rcases Zj.1 (f t (Zc ..))with e2|e2
   ·rw[e,e2]at a;exact absurd a WO.zD
   ·rw[e]at a;exact absurd a ((j _ e2).asymm (d.xh _ (Zb _ e2)).1 h.1)
  ·exact e
 refine⟨key,fun g u b=> ?_⟩;rcases Zj.1 b with rfl|b
 ·exact(Zj.1 (f u (Zc ..))).resolve_left g
 ·exact key u b
theorem dh {o:M'}{w:P'}{W a k:Nat}{fs:S'}{B:List Dv}(v:Cx o w W a k fs B){tq:S'}(r:∀q∈tq,QO q):∀(l:J'),F4 o w W l->l.length<50000->∀{p:Z'} {C:Nat},PO o p->(∀u∈p,u.2∈l)->Cf C p->1<=C->C*(2*a)^l.length*a<4294967296^k->
  ∃n b,cG o Sq QO XD B true n p tq [] tq b/\((b=[]/\UF o fs (fun n=>n∈l) fun m=>X2 p m)\/∃t A,b=[t]/\PO o (t::A)/\(∀u∈t::A,u.2∈l)/\(∀d∈B,Wn d.1.2 t.2=false)/\UF o fs (fun n=>n∈l) fun m=>X2 p m-X2 (t::A) m)
 |l,_,_,[],_,_,_,_,_,_=>⟨0,[],.done,.inl ⟨rfl,.zero fun m=>rfl⟩⟩
 |[],_,_,t::p,_,_,hm,_,_,_=>by have:=hm t (Zc ..);cases this
 |δ::l,hl,hln,t::p,C,hp,hm,hC,hC1,g=>by
  obtain⟨U,V⟩:=ri hl hp hm;have f:=hl.tail;have J:=hl.xh δ (Zc ..);have A:=(Zu.1 hl.dc).1;have R:=v.a1;simp only[Zi]at hln g;have y:=Z7 (wD (C:=C) R l.length) g;have z:=Z7 (wE (C:=C) R (l.length+1)) g;by_cases H:t.2=δ
  ·cases E:TY t.2 B 0 with
   |none=>exact⟨1,[t],.BE rfl ⟨(fun _ h=>by cases h),by simp⟩ E,.inr ⟨t,p,rfl,hp,hm,Sc E,.zero fun m=>by grind⟩⟩
   |some j=>
    obtain⟨d,X,F,T,Y⟩:=Ru E;rw[YW]at F;rw[H]at T;have x:=Zk F;have S:=step v J (fun n e=>(f.xh n e).1) A (fun n e i=>(Zj.1 (hl.cl δ (Zc ..) n e i)).resolve_left i.ne) f.dc (by omega) hp H U hC z hC1 x T;have G:1<=2*a*C:=Yi (by omega) hC1;obtain⟨n,b,K,L⟩:=dh v r l f (by omega) S.po S.mem S.cf G (by rw[rh];exact g);refine⟨n+1,b,.div S.c1 S.c3 S.c4 (S.c5.sq v.k7) S.c6 S.c7 S.c8 S.c9 r E F K,?_⟩;have D:=v.dv d x;rcases L with⟨rfl,s⟩|⟨Q,P,rfl,s,M,N,O⟩
    ·left;refine⟨rfl,UF.add (c:=(XZ t d.1).1) D.mem D.ld S.m8 (by rw[S.ms];exact Zc ..) (s.mono fun n e=>Zb _ e) fun m=> ?_⟩;rw[S.eq]
    ·right;refine⟨Q,P,rfl,s,fun u I=>Zb _ (M u I),N,UF.add (c:=(XZ t d.1).1) D.mem D.ld S.m8 (by rw[S.ms];exact Zc ..) (O.mono fun n e=>Zb _ e) fun m=> ?_⟩;rw[S.eq];grind
  ·obtain⟨n,b,K,L⟩:=dh v r l f (by omega) hp (V H) hC hC1 y;refine⟨n,b,K,?_⟩;rcases L with⟨rfl,s⟩|⟨Q,P,rfl,s,M,N,O⟩
   ·exact .inl ⟨rfl,s.mono fun n e=>Zb _ e⟩
   ·exact .inr ⟨Q,P,rfl,s,fun u I=>Zb _ (M u I),N,O.mono fun n e=>Zb _ e⟩
end Go.Proofs.YtidginchkjhobaaGreat
namespace Go.Num
open Go.Ev
theorem sR:∀{s t d:P'},s.length=d.length->t.length=d.length->Wn s d=true->Wn t d=true->Wn (XJ s t) d=true
 |[],_,_,_,_,_,_=>by simp[XJ,Wn]
 |_::_,[],_,_,_,_,_=>by simp[XJ,Wn]
 |a::s,b::t,[],h,_,_,_=>by simp at h
 |a::s,b::t,c::d,h1,h2,h3,h4=>by
  simp only[Wn,Zs,decide_eq_true_eq]at h3 h4;have e:=sR (s:=s) (t:=t) (d:=d) (by simpa using h1) (by simpa using h2) h3.2 h4.2;unfold XJ at e⊢;simp only[ZC,Wn,e,Bool.and_true,decide_eq_true_eq];omega
theorem zA (s t:P'):XJ s t=XJ t s:=by
 unfold XJ;rw[List.zipWith_comm];congr;funext a b;exact Nat.max_comm ..
theorem eM:∀{s t:P'},s.length=t.length->(∀x∈QW s t,x=0)->XJ s t=Xg s t
 |[],[],_,_=>rfl
 |[],_::_,h,_=>by simp at h
 |_::_,[],h,_=>by simp at h
 |a::s,b::t,h,hg=>by
  have c:=eM (s:=s) (t:=t) (by simpa using h) fun x d=>hg x (by simp only[QW,ZC];exact Zb _ d)
  have h0:=hg (min a b) (by simp only[QW,ZC];exact Zc ..);unfold XJ Xg at c⊢;simp only[ZC,c];congr 1;omega
theorem j9:∀{s t:P'},s.length=t.length->XQ (Xg s t) s=t
 |[],[],_=>rfl
 |[],_::_,h=>by simp at h
 |_::_,[],h=>by simp at h
 |a::s,b::t,h=>by
  have c:=j9 (s:=s) (t:=t) (by simpa using h);unfold XQ Xg at c⊢;simp only[ZC,c,Nat.add_sub_cancel_left]
variable {o:M'}{w:P'}{fs:S'}
def SB (o:M')(w:P')(fs:S')(f g:Z')(s t:Qm):Prop:=
 UF o fs (fun n=>L8 n/\WB w n<=WB w (XJ s.2 t.2)/\WO o n (XJ s.2 t.2)) fun φ=>t.1*(X2 f fun n=>φ (Xg (XQ (XJ s.2 t.2) s.2) n))-s.1*X2 g fun n=>φ (Xg (XQ (XJ s.2 t.2) t.2) n)
theorem SB.sym {f g:Z'}{s t:Qm}(h:SB o w fs f g s t):SB o w fs g f t s:=by
 unfold SB at h⊢;rw[zA t.2 s.2];exact(h.smul (-1)).congr fun a=>by grind
theorem SB.shift (q:∀f∈fs,Pl f){f g:Z'}{s t:Qm}(c:L8 s.2)(d:L8 t.2)(h:SB o w fs f g s t){W:Nat}{i m k:P'}(j:L8 i/\WB w i<=W)(D:L8 m)(C:L8 k)(u:Xg m s.2=i)(v:Xg k t.2=i):
  UF o fs (fun n=>(L8 n/\WB w n<=W)/\WO o n i) fun r=>t.1*(X2 f fun n=>r (Xg m n))-s.1*X2 g fun n=>r (Xg k n):=by
 have b:=aB c d;have z:Wn s.2 i=true:=by rw[<-u,XW];exact Rw ..
 have A:Wn t.2 i=true:=by rw[<-v,XW];exact Rw ..
 have B:=sR (c.trans j.1.symm) (d.trans j.1.symm) z A;have e:L8 (XQ i (XJ s.2 t.2)):=Vy j.1 b;have p:Xg (XQ i (XJ s.2 t.2)) (XJ s.2 t.2)=i:=by rw[XW];exact W6 (b.trans j.1.symm) B
 have x:Xg (XQ (XJ s.2 t.2) s.2) s.2=XJ s.2 t.2:=by rw[XW];exact W6 (c.trans b.symm) (Tu _ _ (c.trans d.symm))
 have y:Xg (XQ (XJ s.2 t.2) t.2) t.2=XJ s.2 t.2:=by rw[XW];exact W6 (d.trans b.symm) (Tt _ _ (c.trans d.symm))
 have e1:Xg (XQ i (XJ s.2 t.2)) (XQ (XJ s.2 t.2) s.2)=m:=by
  refine Rz (a:=s.2) (by rw[c,Vr e (Vy b c)]) (c.trans D.symm) ?_;rw[XW s.2,UD,x,p,XW,u]
 have e2:Xg (XQ i (XJ s.2 t.2)) (XQ (XJ s.2 t.2) t.2)=k:=by
  refine Rz (a:=t.2) (by rw[d,Vr e (Vy b d)]) (d.trans C.symm) ?_;rw[XW t.2,UD,y,p,XW,v]
 have E:WB w i=WB w (XQ i (XJ s.2 t.2))+WB w (XJ s.2 t.2):=by rw[<-W1 w (e.trans b.symm),p]
 refine(UF.shift (Q:=fun n=>(L8 n/\WB w n<=W)/\WO o n i) e q h fun n l=>⟨⟨Vr e l.1,?_⟩,?_⟩).congr fun r=> ?_
 ·rw[W1 w (e.trans l.1.symm)];have:=j.2;have:=l.2.1;omega
 ·have:=l.2.2.add e l.1 b
  rwa[p]at this
 ·simp only[<-UD,e1,e2]
theorem SB.coprime {f g l p:Z'}{s t:Qm}(C:f∈fs)(D:g∈fs)(E:XR o f=some s)(F:XR o g=some t)(y:(s::l).Perm f)(z:(t::p).Perm g)(of:PO o (s::l))(v:PO o (t::p))(I:∀u∈f,WB w u.2<=WB w s.2)(J:∀u∈g,WB w u.2<=WB w t.2)
  (i:∀x∈QW s.2 t.2,x=0):SB o w fs f g s t:=by
 have a:=of.q8 s (Zc ..);have b:=v.q8 t (Zc ..);have h:=eM (a.trans b.symm) i;have B:L8 (XJ s.2 t.2):=aB a b;have j:WB w (XJ s.2 t.2)=WB w s.2+WB w t.2:=by rw[h,W1 w (a.trans b.symm)]
 have e1:XQ (XJ s.2 t.2) s.2=t.2:=by rw[h];exact j9 (a.trans b.symm)
 have e2:XQ (XJ s.2 t.2) t.2=s.2:=by rw[h,XW];exact j9 (b.trans a.symm)
 unfold SB;rw[e1,e2];have G:=UF.prod (P:=fun n=>L8 n/\WB w n<=WB w (XJ s.2 t.2)/\WO o n (XJ s.2 t.2)) D F (q:=l) fun u e=>by
  have c:=of.q8 u (Zb _ e);have A:=I u (y.mem_iff.1 (Zb _ e));have r:=((Zu.1 of.pw).1 u e).add b c a;refine⟨c,Vr c b,?_,?_⟩
  ·rw[W1 w (c.trans b.symm),j];omega
  ·rw[h,XW u.2,XW s.2];exact r
 have H:=UF.prod (P:=fun n=>L8 n/\WB w n<=WB w (XJ s.2 t.2)/\WO o n (XJ s.2 t.2)) C E (q:=p) fun u e=>by
  have c:=v.q8 u (Zb _ e);have A:=J u (z.mem_iff.1 (Zb _ e));have r:=((Zu.1 v.pw).1 u e).add a c b;refine⟨c,Vr c a,?_,?_⟩
  ·rw[W1 w (c.trans a.symm),j];omega
  ·rw[h,XW u.2];exact r
 refine(G.plus (H.smul (-1))).congr fun d=> ?_
 have K:(X2 g fun m=>X2 f fun k=>d (Xg m k))=X2 f fun m=>X2 g fun k=>d (Xg m k):=by
  rw[q7];exact Ua fun m _=>Ua fun k _=>by rw[XW]
 have L:(X2 g fun m=>X2 f fun k=>d (Xg m k))=t.1*(X2 f fun k=>d (Xg t.2 k))+X2 p fun m=>X2 f fun k=>d (Xg m k):=(Pc (φ:=fun m=>X2 f fun k=>d (Xg m k)) z).symm
 have x2:(X2 f fun m=>X2 g fun k=>d (Xg m k))=s.1*(X2 g fun k=>d (Xg s.2 k))+X2 l fun m=>X2 g fun k=>d (Xg m k):=(Pc (φ:=fun m=>X2 g fun k=>d (Xg m k)) y).symm
 grind
def GB (o:M')(w:P')(W:Nat)(fs:S'):Prop:=
 ∀v:Fn,UF o fs (fun n=>L8 n/\WB w n<=W) v->(∀n,L8 n->v (WW n)=0)\/∃δ f s,v (WW δ)≠0/\L8 δ/\(∀n,L8 n->WO o δ n->v (WW n)=0)/\f∈fs/\XR o f=some s/\Wn s.2 δ=true
theorem CL (q:w.length=8)(x:∀a∈w,0<a)(d:∀f∈fs,Pl f)(h:∀f∈fs,∀g∈fs,f≠g->∀s t,XR o f=some s->XR o g=some t->SB o w fs f g s t)(W:Nat):GB o w W fs:=by
 intro v D;have e:∀n∈SO o (allM w W),L8 n/\WB w n<=W:=fun n c=>by
  obtain⟨a,b⟩:=Nf (WS.1 c) x;exact⟨a.trans q,b⟩
 rcases UF.lead d (W:=fun n=>L8 n/\WB w n<=W) (fun n c=>c.1) (fun p y f z g A s t m k r l C B e1 e2=>by
  have i:=(XK (d f z) r).2.1;have u:=(XK (d g A) l).2.1;by_cases j:f=g
  ·subst j;rw[r]at l;cases l;have :m=k:=Rz (a:=s.2) (i.trans C.symm) (i.trans B.symm) (by rw[XW,e1,XW,e2]);subst this;exact .zero fun E=>by grind
  ·exact(h f z g A j s t r l).shift d i u y C B e1 e2)
  (SO o (allM w W)) e (aY fun n c=>(e n (WS.2 c)).1) (fun p _ n c _=>WS.2 (TF (q.trans c.1.symm) x c.2)) v (D.mono fun n c=>WS.2 (TF (q.trans c.1.symm) x c.2))with h1|⟨p,f,s,h1,h2,h3,h4⟩
 ·exact .inl h1
 ·exact .inr ⟨p,f,s,h1,(e p h2).1,h3,h4⟩
theorem HS {W:Nat}(d:GB o w W fs){a:Z'}(b:Nz a)(e:UF o fs (fun n=>L8 n/\WB w n<=W) fun g=>X2 a g)(c:∀u∈a,∀f∈fs,∀s,XR o f=some s->Wn s.2 u.2=false):a=[]:=by
 rcases d _ e with h|⟨δ,f,s,h1,h2,h3,h4,h5,h6⟩
 ·cases a with
  |nil=>rfl
  |cons t a=>
   have:=b.Tj t (Zc ..);rw[Wo,h _ (b.q8 t (Zc ..))]at this;exact absurd this.symm (b.nz t (Zc ..))
 ·have:=c _ (b.mem (m:=δ) h1) f h4 s h5;rw[h6]at this;cases this
theorem CM {W:Nat}(i:GB o w W fs){t:Qm}{p:Z'}(a:PO o (t::p))(k:UF o fs (fun n=>L8 n/\WB w n<=W) fun l=>X2 (t::p) l)(g:∀f∈fs,∀s,XR o f=some s->Wn s.2 t.2=false):False:=by
 have c:=a.q8 t (Zc ..);have b:=a.SQ.Tj t (Zc ..);rw[Wo]at b;rcases i _ k with h|⟨δ,f,s,h1,h2,h3,h4,h5,h6⟩
 ·rw[h _ c]at b;exact a.nz t (Zc ..) b.symm
 ·have j:=a.SQ.mem (m:=δ) h1;have :δ=t.2:=by
   rcases Zj.1 j with e|e
   ·exact congrArg Prod.snd e
   ·have d:=(Zu.1 a.pw).1 _ e;have:=h3 t.2 c d;rw[this]at b;exact absurd b.symm (a.nz t (Zc ..))
  rw[this]at h6;rw[g f h4 s h5]at h6;cases h6
end Go.Num
