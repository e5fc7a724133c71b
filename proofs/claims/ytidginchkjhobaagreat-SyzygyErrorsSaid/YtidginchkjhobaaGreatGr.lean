/- Orders of monomials and sums of products: plain facts. -/
import Derived.Test.YtidginchkjhobaaGreatQDvdB
namespace Go.Num
open Go.Ev
theorem wG:∀(o:List (List Int)) (m n:List Nat),WC o m n=.ofNat 1\/WC o m n=.negSucc 0\/WC o m n=.ofNat 0:=Go.Proofs.YtidginchkjhobaaGreat.Vy
def WE (o:List (List Int))(m n:List Nat):Prop:=WC o n m=.ofNat 1
instance (o:List (List Int))(m n:List Nat):Decidable (WE o m n):=by unfold WE;infer_instance
abbrev L8 (m:List Nat):Prop:=m.length=8
theorem WE.trans {o:List (List Int)}{l m n:List Nat}(d:L8 l)(a:L8 m)(e:L8 n)(b:WE o l m)(c:WE o m n):WE o l n:=
 Go.Proofs.YtidginchkjhobaaGreat.Nw (e.trans a.symm) (a.trans d.symm) c b
theorem WE.zh {o:List (List Int)}{m:List Nat}:¬WE o m m:=by
 unfold WE;rw[QC];decide
theorem WE.CQ (o:List (List Int)){m n:List Nat}(a:L8 m)(b:L8 n):WE o m n\/m=n\/WE o n m:=by
 rcases wG o n m with h|h|h
 ·exact .inl h
 ·exact .inr (.inr (Go.Proofs.YtidginchkjhobaaGreat.QD.1 h))
 ·exact .inr (.inl (Go.Proofs.YtidginchkjhobaaGreat.ON (b.trans a.symm) h).symm)
theorem WE.ne {o:List (List Int)}{m n:List Nat}(h:WE o m n):m≠n:=fun e=>WE.zh (e▸h)
theorem WE.asymm {o:List (List Int)}{m n:List Nat}(a:L8 m)(b:L8 n)(h:WE o m n):¬WE o n m:=fun k=>WE.zh (WE.trans a b a h k)
theorem XP (m n:List Nat):Xg m n=Xg n m:=by
 unfold Xg;rw[List.zipWith_comm];congr;funext a b;exact Y1 ..
theorem UY:∀(a b c:List Nat),Xg (Xg a b) c=Xg a (Xg b c)
 |[],_,_=>by simp[Xg]
 |_::_,[],_=>by simp[Xg]
 |_::_,_::_,[]=>by simp[Xg]
 |x::a,y::b,z::c=>by
  have d:=UY a b c;unfold Xg at d⊢;simp only[Zw,d,Nat.add_assoc]
theorem VU {m n:List Nat}(a:L8 m)(b:L8 n):L8 (Xg m n):=by simp[L8,Xg,a,b]
theorem Vs {m n:List Nat}(a:L8 m)(b:L8 n):L8 (X6 m n):=by simp[L8,X6,a,b]
theorem No {m n:List Nat}(a:L8 m)(b:L8 n):L8 (XD m n):=by simp[L8,XD,a,b]
theorem Ua:∀{a b c:List Nat},a.length=b.length->a.length=c.length->Xg a b=Xg a c->b=c
 |[],[],[],_,_,_=>rfl
 |[],[],_::_,_,h,_=>by simp at h
 |[],_::_,_,h,_,_=>by simp at h
 |_::_,[],_,h,_,_=>by simp at h
 |_::_,_::_,[],_,h,_=>by simp at h
 |x::a,y::b,z::c,h1,h2,h=>by
  unfold Xg at h;simp only[Zw,ZJ]at h;rw[show y=z by omega,Ua (a:=a) (b:=b) (c:=c) (by simpa using h1) (by simpa using h2) h.2]
theorem qm:∀(r:List Int) {k m:List Nat},k.length=m.length->wt r (Xg k m)=wt r k+wt r m
 |[],k,m,_=>by simp[wt]
 |w::r,[],[],_=>by simp[wt,Xg]
 |w::r,[],_::_,h=>by simp at h
 |w::r,_::_,[],h=>by simp at h
 |w::r,a::k,b::m,h=>by
  have c:=qm r (k:=k) (m:=m) (by simpa using h);unfold Xg at c⊢;simp only[Zw,wt,c,Int.natCast_add,Int.mul_add];omega
theorem jT:∀(o:List (List Int)) {k m n:List Nat},L8 k->L8 m->L8 n->WC o (Xg k m) (Xg k n)=WC o m n
 |[],k,m,n,hk,hm,hn=>Ny k m n (hk.trans hm.symm) (hm.trans hn.symm)
 |r::o,k,m,n,hk,hm,hn=>by
  have a:=jT o hk hm hn;simp only[WC,qm r (hk.trans hm.symm),qm r (hk.trans hn.symm),a,Int.add_lt_add_iff_left]
theorem WE.add {o:List (List Int)}{k m n:List Nat}(a:L8 k)(b:L8 m)(c:L8 n)(h:WE o m n):WE o (Xg k m) (Xg k n):=by
 unfold WE at h⊢;rw[jT o a c b];exact h
def aQ (o:List (List Int))(m n:List Nat):Prop:=m=n\/WE o m n
theorem aQ.add {o:List (List Int)}{k m n:List Nat}(a:L8 k)(b:L8 m)(c:L8 n)(h:aQ o m n):aQ o (Xg k m) (Xg k n):=by
 rcases h with rfl|h
 ·exact .inl rfl
 ·exact .inr (h.add a b c)
theorem aQ.lt {o:List (List Int)}{l m n:List Nat}(b:L8 l)(c:L8 m)(d:L8 n)(h:aQ o l m)(a:WE o m n):WE o l n:=by
 rcases h with rfl|h
 ·exact a
 ·exact h.trans b c d a
theorem WE.le {o:List (List Int)}{l m n:List Nat}(b:L8 l)(c:L8 m)(d:L8 n)(h:WE o l m)(a:aQ o m n):WE o l n:=by
 rcases a with rfl|a
 ·exact h
 ·exact h.trans b c d a
theorem aQ.trans {o:List (List Int)}{l m n:List Nat}(b:L8 l)(c:L8 m)(d:L8 n)(h:aQ o l m)(a:aQ o m n):aQ o l n:=by
 rcases h with rfl|h
 ·exact a
 ·exact .inr (h.le b c d a)
structure Pl (f:List Qm):Prop where
 dc:Pv f
 q8:Q8 f
theorem Pl.nil:Pl []:=⟨.nil,fun _ h=>by cases h⟩
theorem Pl.uniq {f:List Qm}(h:Pl f){s u:Qm}(c:s∈f)(d:u∈f)(e:u.2=s.2):u=s:=by
 have b:=h.dc.Up s c;have a:=h.dc.Up u d;rw[e,b]at a;exact Prod.ext a.symm e
theorem rA (o:List (List Int)):∀(a:List Qm) (b:Qm),V7 o b a∈b::a:=fun a b=>by
 rcases Qp o a b with h|h
 ·rw[h];exact Ze ..
 ·exact Zc _ h
theorem bO (o:List (List Int)):∀(a:List Qm) (b:Qm),L8 b.2->(∀t∈a,L8 t.2)->∀u∈b::a,aQ o u.2 (V7 o b a).2
 |[],b,hb,_,u,hu=>by
  simp only[Zj,Z0,or_false]at hu;subst hu;exact .inl rfl
 |t::a,b,hb,i,u,hu=>by
  have f:=i t (Ze ..);have c:∀t∈a,L8 t.2:=fun x j=>i x (Zc _ j)
  simp only[V7];by_cases g:WC o t.2 b.2=.ofNat 1
  ·rw[if_pos g];have e:=bO o a t f c;have d:L8 (V7 o t a).2:=by
    rcases Qp o a t with h|h
    ·rw[h];exact f
    ·exact c _ h
   rcases Zj.1 hu with rfl|hu
   ·exact .inr (WE.le hb f d g (e t (Ze ..)))
   ·exact e u hu
  ·rw[if_neg g];have e:=bO o a b hb c;have d:L8 (V7 o b a).2:=by
    rcases Qp o a b with h|h
    ·rw[h];exact hb
    ·exact c _ h
   rcases Zj.1 hu with rfl|hu
   ·exact e u (Ze ..)
   ·rcases Zj.1 hu with rfl|hu
    ·rcases WE.CQ o f hb with h|h|h
     ·exact .inr (WE.le f hb d h (e b (Ze ..)))
     ·rw[h];exact e b (Ze ..)
     ·exact absurd h g
    ·exact e u (Zc _ hu)
theorem XW {o:List (List Int)}{f:List Qm}(a:Pl f){s:Qm}(h:XU o f=some s):s∈f/\L8 s.2/\s.1≠0/\∀u∈f,u=s\/WE o u.2 s.2:=by
 cases f with
 |nil=>cases h
 |cons t d=>
  simp only[XU,Za]at h;subst h;have b:=rA o d t;refine⟨b,a.q8 _ b,a.dc.nz _ b,fun u c=> ?_⟩;rcases bO o d t (a.q8 _ (Ze ..)) (fun x e=>a.q8 x (Zc _ e)) u c with h|h
  ·exact .inl (a.uniq b c h)
  ·exact .inr h
theorem Tt {o:List (List Int)}{f:List Qm}(h:XU o f=none):f=[]:=by
 cases f with
 |nil=>rfl
 |cons t a=>cases h
theorem aq {o:List (List Int)}{f:List Qm}(a:Pl f){s:Qm}(h:XU o f=some s):∀u∈f,aQ o u.2 s.2:=fun u b=>by
 rcases(XW a h).2.2.2 u b with h|h
 ·exact .inl (by rw[h])
 ·exact .inr h
def V2 (n:List Nat):List Nat->Rat:=fun k=>if k=n then 1 else 0
theorem Ve (f:List Qm)(n:List Nat):S0 f n=Wc f (V2 n):=rfl
theorem fp {f:List Qm}{a:List Nat->Rat}(h:∀u∈f,a u.2=0):Wc f a=0:=by
 rw[U2 (ψ:=fun _=>0) h,N8]
theorem yz {f:List Qm}(a:Pl f){s:Qm}(b:s∈f){φ:List Nat->Rat}(h:∀u∈f,u=s\/φ u.2=0):Wc f φ=φ s.2*s.1:=by
 have:=a.dc.Up s b;rw[<-this];unfold S0;rw[<-fq];apply U2;intro t c;by_cases e:t.2=s.2
 ·rw[if_pos e,e];grind
 ·rw[if_neg e];rcases h t c with h|h
  ·exact absurd (by rw[h]) e
  ·rw[h];grind
abbrev Fn:=(List Nat->Rat)->Rat
inductive Sx (o:List (List Int))(fs:List (List Qm))(P:List Nat->Prop):Fn->Prop
 |zero {v:Fn} (h:∀φ,v φ=0):Sx o fs P v
 |add {v w:Fn} {f:List Qm} {s:Qm} {c:Rat} {m:List Nat} (hf:f∈fs) (hs:XU o f=some s) (hm:L8 m) (hP:P (Xg m s.2)) (hw:Sx o fs P w) (hv:∀φ,v φ=w φ+c*Wc f fun k=>φ (Xg m k)):Sx o fs P v
variable {o:List (List Int)}{fs:List (List Qm)}{P Q:List Nat->Prop}{v w:Fn}
theorem Sx.congr (h:Sx o fs P v)(e:∀a,w a=v a):Sx o fs P w:=by
 cases h with
 |zero h=>exact .zero fun a=>by rw[e,h]
 |add c f d b i g=>exact .add c f d b i fun a=>by rw[e,g]
theorem Sx.mono (h:Sx o fs P v)(k:∀n,P n->Q n):Sx o fs Q v:=by
 induction h with
 |zero h=>exact .zero h
 |add b d c a g e f=>exact .add b d c (k _ a) f e
theorem Sx.plus (h:Sx o fs P v)(k:Sx o fs P w):Sx o fs P fun a=>v a+w a:=by
 induction h with
 |zero h=>exact k.congr fun a=>by rw[h];grind
 |@add v w f s c m d g e b l i j=>exact .add (c:=c) d g e b j fun a=>by rw[i];grind
theorem Sx.smul (a:Rat)(h:Sx o fs P v):Sx o fs P fun b=>a*v b:=by
 induction h with
 |zero h=>exact .zero fun b=>by rw[h];grind
 |@add v w f s c m e i g d l j k=>exact .add (c:=a*c) e i g d k fun b=>by rw[j];grind
theorem Sx.shift {d:List Nat}(e:L8 d)(i:∀f∈fs,Pl f)(h:Sx o fs P v)(k:∀n,P n->Q (Xg d n)):Sx o fs Q fun a=>v fun n=>a (Xg d n):=by
 induction h with
 |zero h=>exact .zero fun a=>h _
 |@add v w f s c m g l j b r p q=>
  refine .add (c:=c) g l (VU e j) (by rw[UY];exact k _ b) q fun a=> ?_
  rw[p];simp only[UY]
theorem Sx.prod {f:List Qm}{s:Qm}(b:f∈fs)(d:XU o f=some s):∀{q:List Qm},(∀u∈q,L8 u.2/\P (Xg u.2 s.2))->Sx o fs P fun a=>Wc q fun m=>Wc f fun k=>a (Xg m k)
 |[],_=>.zero fun a=>rfl
 |u::q,h=>by
  have j:=Sx.prod b d (q:=q) fun x i=>h x (Zc _ i)
  obtain⟨e,g⟩:=h u (Ze ..);exact .add (c:=u.1) b d e g j fun a=>by simp only[Wc];grind
theorem Sx.top (a:∀f∈fs,Pl f)(h:Sx o fs P v){n:List Nat}(q:L8 n)(k:∀x,P x->WE o x n):v (V2 n)=0:=by
 induction h with
 |zero h=>exact h _
 |@add v w f s c m d j g p B r t=>
  obtain⟨y,i,z,A⟩:=XW (a f d) j;rw[r,t,fp]
  ·grind
  ·intro u l;have b:=(a f d).q8 u l;have e:WE o (Xg m u.2) n:=by
    have:=aq (a f d) j u l;exact aQ.lt (VU g b) (VU g i) q (this.add g b i) (k _ p)
   unfold V2;rw[if_neg e.ne]
theorem Sx.join (q:∀f∈fs,Pl f){δ:List Nat}(y:∀n,P n->n=δ\/Q n)
  (u:∀f∈fs,∀g∈fs,∀s t m k,XU o f=some s->XU o g=some t->L8 m->L8 k->Xg m s.2=δ->Xg k t.2=δ->Sx o fs Q fun a=>t.1*(Wc f fun n=>a (Xg m n))-s.1*Wc g fun n=>a (Xg k n))
  (h:Sx o fs P v):Sx o fs Q v\/∃f s m c w,f∈fs/\XU o f=some s/\L8 m/\Xg m s.2=δ/\Sx o fs Q w/\∀a,v a=w a+c*Wc f fun k=>a (Xg m k):=by
 induction h with
 |zero h=>exact .inl (.zero h)
 |@add v w f s c m i l j x z p b=>
  rcases y _ x with e|hq
  ·rcases b with b|⟨f0,s0,m0,c0,w0,a1,a2,a3,a4,a5,a6⟩
   ·exact .inr ⟨f,s,m,c,w,i,l,j,e,b,p⟩
   ·have d:=u f i f0 a1 s s0 m m0 l a2 j a3 e a4;have r:=(XW (q f0 a1) a2).2.2.1;refine .inr ⟨f0,s0,m0,c0+c*s.1 / s0.1,_,a1,a2,a3,a4,a5.plus (d.smul (c / s0.1)),fun a=> ?_⟩;rw[p,a6];generalize (Wc f fun k=>a (Xg m k))=X;generalize (Wc f0 fun k=>a (Xg m0 k))=Y;have :c / s0.1*s0.1=c:=Rat.div_mul_cancel r;have e2:c*s.1 / s0.1=c / s0.1*s.1:=by rw[Rat.div_def,Rat.div_def];grind
    rw[e2];grind
  ·rcases b with b|⟨f0,s0,m0,c0,w0,a1,a2,a3,a4,a5,a6⟩
   ·exact .inl (.add i l j hq b p)
   ·exact .inr ⟨f0,s0,m0,c0,_,a1,a2,a3,a4,.add (v:=fun a=>w0 a+c*Wc f fun k=>a (Xg m k)) (c:=c) i l j hq a5 (fun a=>rfl),fun a=>by rw[p,a6];generalize (Wc f fun k=>a (Xg m k))=X;generalize (Wc f0 fun k=>a (Xg m0 k))=Y;generalize w0 a=Z;grind⟩
theorem Sx.lead (i:∀f∈fs,Pl f){W:List Nat->Prop}(y:∀n,W n->L8 n)
  (A:∀δ,W δ->∀f∈fs,∀g∈fs,∀s t m k,XU o f=some s->XU o g=some t->L8 m->L8 k->Xg m s.2=δ->Xg k t.2=δ->Sx o fs (fun n=>W n/\WE o n δ) fun I=>t.1*(Wc f fun n=>I (Xg m n))-s.1*Wc g fun n=>I (Xg k n)):
  ∀(l:List (List Nat)),(∀n∈l,W n)->l.Pairwise (fun a b=>WE o b a)->(∀δ∈l,∀n,W n->WE o n δ->n∈l)->∀v:Fn,Sx o fs (fun n=>n∈l) v->
   (∀n,L8 n->v (V2 n)=0)\/∃δ f s,v (V2 δ)≠0/\δ∈l/\(∀n,L8 n->WE o δ n->v (V2 n)=0)/\f∈fs/\XU o f=some s/\WO s.2 δ=true
 |[],_,_,_,v,h=>by
  refine .inl fun n _=> ?_
  cases h with
  |zero h=>exact h _
  |add _ _ _ R _ _=>cases R
 |δ::l,G,hp,L,v,h=>by
  obtain⟨H,Z⟩:=Zv.1 hp;have r:=y δ (G δ (Ze ..));have q:∀n∈l,W n:=fun n j=>G n (Zc _ j)
  have E:∀d∈l,∀n,W n->WE o n d->n∈l:=fun d F n j p=>by
   rcases Zj.1 (L d (Zc _ F) n j p)with rfl|h
   ·exact absurd (H d F) (p.asymm (y _ j) (y _ (q d F)))
   ·exact h
  have step:Sx o fs (fun n=>n∈l) v->_:=fun D=>Sx.lead i y A l q Z E v D
  rcases h.join (Q:=fun n=>n∈l) (δ:=δ) i (fun n j=>Zj.1 j) (fun f S g T s t m k X Y V U e1 e2=>(A δ (G δ (Ze ..)) f S g T s t m k X Y V U e1 e2).mono fun n j=>by
   rcases Zj.1 (L δ (Ze ..) n j.1 j.2)with rfl|h
   ·exact absurd j.2 WE.zh
   ·exact h)with D|⟨f,s,m,c,w,a1,a2,a3,a4,a5,a6⟩
  ·rcases step D with h|⟨d,f,s,b1,b2,b3⟩
   ·exact .inl h
   ·exact .inr ⟨d,f,s,b1,Zc _ b2,b3⟩
  ·by_cases z:c=0
   ·rcases step (a5.congr fun I=>by rw[a6,z];grind)with h|⟨d,f,s,b1,b2,b3⟩
    ·exact .inl h
    ·exact .inr ⟨d,f,s,b1,Zc _ b2,b3⟩
   ·obtain⟨N,J,O,P⟩:=XW (i f a1) a2;refine .inr ⟨δ,f,s,?_,Ze ..,fun n j p=> ?_,a1,a2,?_⟩
    ·rw[a6,a5.top i r H,yz (i f a1) N (fun u B=> ?_)]
     ·unfold V2;rw[a4,if_pos rfl];intro e;have :c*s.1=0:=by grind
      exact(Rat.mul_eq_zero.1 this).elim z O
     ·rcases P u B with h|h
      ·exact .inl h
      ·right;have:=h.add a3 ((i f a1).q8 u B) J;rw[a4]at this;unfold V2;rw[if_neg this.ne]
    ·rw[a6,a5.top i j (fun x M=>(H x M).trans (y _ (q x M)) r j p),fp]
     ·grind
     ·intro u B;have C:=(i f a1).q8 u B;have K:=(aq (i f a1) a2 u B).add a3 C J;rw[a4]at K;unfold V2;rw[if_neg (K.lt (VU a3 C) r j p).ne]
    ·rw[<-a4,XP];exact Qy ..
end Go.Num
namespace Go.Num
open Go.Ev
structure Nz (ts:List Qm):Prop where
 nd:(ts.map (·.2)).Nodup
 nz:∀t∈ts,t.1≠0
 q8:∀t∈ts,L8 t.2
theorem Nz.nil:Nz []:=⟨by simp,(fun _ h=>by cases h),(fun _ h=>by cases h)⟩
theorem Nz.tail {t:Qm}{b:List Qm}(h:Nz (t::b)):Nz b:=⟨(List.nodup_cons.1 h.nd).2,fun x a=>h.nz x (Zc _ a),fun x a=>h.q8 x (Zc _ a)⟩
theorem Nz.Pf:∀{a:List Qm},Nz a->∀t∈a,S0 a t.2=t.1
 |u::a,h,t,ht=>by
  have b:=(List.nodup_cons.1 h.nd).1;rw[QB];rcases Zj.1 ht with rfl|ht
  ·rw[if_pos rfl,Oc fun x c e=>b (ZQ.2 ⟨x,c,e⟩)];grind
  ·rw[if_neg (fun e=>b (ZQ.2 ⟨t,ht,e.symm⟩)),h.tail.Pf t ht];grind
theorem Nz.mem {a:List Qm}(h:Nz a){m:List Nat}(c:S0 a m≠0):(S0 a m,m)∈a:=by
 by_cases e:∃t∈a,t.2=m
 ·obtain⟨t,b,rfl⟩:=e;rw[h.Pf t b];exact b
 ·exact absurd (Oc fun t b d=>e ⟨t,b,d⟩) c
theorem Nz.same {c d:List Qm}(h:Nz c)(k:Nz d)(e:∀m,L8 m->S0 c m=S0 d m){t:Qm}(b:t∈c):t∈d:=by
 have a:=h.Pf t b;rw[e _ (h.q8 t b)]at a;have:=k.mem (m:=t.2) (by rw[a];exact h.nz t b);rw[a]at this;exact this
theorem Pl.O1 {a:List Qm}(h:Pl a):Nz a:=by
 refine⟨?_,h.dc.nz,h.q8⟩;rw[List.nodup_iff_pairwise_ne,List.pairwise_map];exact h.dc.pw.imp fun e=>lX e
structure PO (o:List (List Int))(ts:List Qm):Prop where
 pw:ts.Pairwise fun t u=>WE o u.2 t.2
 nz:∀t∈ts,t.1≠0
 q8:∀t∈ts,L8 t.2
variable {o:List (List Int)}
theorem PO.nil:PO o []:=⟨.nil,(fun _ h=>by cases h),(fun _ h=>by cases h)⟩
theorem PO.tail {t:Qm}{b:List Qm}(h:PO o (t::b)):PO o b:=⟨(Zv.1 h.pw).2,fun x a=>h.nz x (Zc _ a),fun x a=>h.q8 x (Zc _ a)⟩
theorem PO.cons {t:Qm}{b:List Qm}(h:PO o b)(h0:t.1≠0)(c:L8 t.2)(d:∀u∈b,WE o u.2 t.2):PO o (t::b):=
 ⟨Zv.2 ⟨d,h.pw⟩,fun x a=>by rcases Zj.1 a with rfl|a;exact h0;exact h.nz x a,fun x a=>by rcases Zj.1 a with rfl|a;exact c;exact h.q8 x a⟩
theorem PO.app {b c:List Qm}(h:PO o b)(k:PO o c)(d:∀t∈b,∀u∈c,WE o u.2 t.2):PO o (b++c):=
 ⟨List.pairwise_append.2 ⟨h.pw,k.pw,d⟩,fun x a=>by rcases Yc.1 a with a|a;exact h.nz x a;exact k.nz x a,fun x a=>by rcases Yc.1 a with a|a;exact h.q8 x a;exact k.q8 x a⟩
theorem PO.O1 {a:List Qm}(h:PO o a):Nz a:=by
 refine⟨?_,h.nz,h.q8⟩;rw[List.nodup_iff_pairwise_ne,List.pairwise_map];exact h.pw.imp fun e=>(WE.ne e).symm
theorem PO.dc {a:List Qm}(h:PO [] a):Pl a:=⟨⟨h.nz,h.pw⟩,h.q8⟩
theorem Rc (c:List Nat->Rat):∀(b a:List Qm),Wc (b++a) c=Wc b c+Wc a c
 |[],a=>by simp only[ZF,Wc];grind
 |t::b,a=>by simp only[ZI,Wc,Rc c b a];grind
theorem N9 {φ:List Nat->Rat}{a b:List Qm}(h:a.Perm b):Wc a φ=Wc b φ:=by
 induction h with
 |nil=>rfl
 |cons x _ e=>simp only[Wc,e]
 |swap x y l=>simp only[Wc];grind
 |trans _ _ c d=>rw[c,d]
theorem tU {t:Qm}(h0:t.1≠0)(c:L8 t.2):∀{d:List Qm},PO o d->(∀u∈d,u.2≠t.2)->PO o (oJ o t d)
 |[],_,_=>PO.cons .nil h0 c fun _ h=>by cases h
 |u::us,h,hn=>by
  have b:=h.q8 u (Ze ..);have f:=tU h0 c h.tail fun x a=>hn x (Zc _ a)
  unfold oJ;rcases WE.CQ o c b with h1|h1|h1
  ·have e:Tf (WC o t.2 u.2) (.ofNat 0)=true:=by
    rw[Go.Proofs.YtidginchkjhobaaGreat.QD.2 h1];rfl
   rw[e];refine PO.cons f (h.nz u (Ze ..)) b fun x a=> ?_
   rcases Zj.1 ((bP o t us).mem_iff.1 a)with rfl|a
   ·exact h1
   ·exact(Zv.1 h.pw).1 x a
  ·exact absurd h1.symm (hn u (Ze ..))
  ·have e:Tf (WC o t.2 u.2) (.ofNat 0)=false:=by
    unfold WE at h1;rw[h1];rfl
   rw[e];refine PO.cons h h0 c fun x a=> ?_
   rcases Zj.1 a with rfl|a
   ·exact h1
   ·exact((Zv.1 h.pw).1 x a).trans (h.q8 x (Zc _ a)) b c h1
theorem Rs:∀{a:List Qm},Nz a->PO o (Vu o a)
 |[],_=>.nil
 |t::a,h=>by
  have c:=Rs h.tail;refine tU (h.nz t (Ze ..)) (h.q8 t (Ze ..)) c fun u b e=> ?_
  exact(List.nodup_cons.1 h.nd).1 (ZQ.2 ⟨u,(Vh o a).mem_iff.1 b,e⟩)
theorem PK (b:List Nat->Rat)(a:List Qm):Wc (Vu o a) b=Wc a b:=N9 (Vh o a)
theorem OH {f:List Qm}(c:Pl f){s:Qm}{k:List Qm}(h:Vu o f=s::k):XU o f=some s:=by
 have d:=Vh o f;rw[h]at d;have a:=Rs (o:=o) c.O1;rw[h]at a;have b:s∈f:=d.mem_iff.1 (Ze ..);cases e:XU o f with
 |none=>rw[Tt e]at b;cases b
 |some t=>
  obtain⟨g,i,l,j⟩:=XW c e;rcases j s b with rfl|h5
  ·rfl
  ·rcases Zj.1 (d.mem_iff.2 g)with rfl|h6
   ·exact absurd h5 WE.zh
   ·exact absurd h5 (((Zv.1 a.pw).1 t h6).asymm i (c.q8 s b))
theorem mW (o:List (List Int))(mm:List Nat)(p:List Qm):(Vt o mm p).1++(Vt o mm p).2=p:=Go.Proofs.YtidginchkjhobaaGreat.QP o mm p
theorem eJ (mm:List Nat):∀{p:List Qm},PO o p->L8 mm->(∀x∈(Vt o mm p).1,WE o mm x.2)/\(∀x∈(Vt o mm p).2,aQ o x.2 mm)
 |[],_,_=>⟨(fun _ h=>by cases h),(fun _ h=>by cases h)⟩
 |s::p,h,hm=>by
  have c:=h.q8 s (Ze ..);unfold Vt;by_cases d:WC o s.2 mm=.ofNat 1
  ·rw[if_pos d];obtain⟨e,f⟩:=eJ mm h.tail hm;refine⟨fun x a=> ?_,f⟩;rcases Zj.1 a with rfl|a
   ·exact d
   ·exact e x a
  ·rw[if_neg d];refine⟨(fun _ h=>by cases h),fun x a=> ?_⟩;have b:aQ o s.2 mm:=by
    rcases WE.CQ o c hm with h2|h2|h2
    ·exact .inr h2
    ·exact .inl h2
    ·exact absurd h2 d
   rcases Zj.1 a with rfl|a
   ·exact b
   ·exact .inr (((Zv.1 h.pw).1 x a).le (h.q8 x (Zc _ a)) c hm b)
theorem PO.sub {p q:List Qm}(h:PO o p)(a:q.Sublist p):PO o q:=⟨h.pw.sublist a,fun t b=>h.nz t (a.subset b),fun t b=>h.q8 t (a.subset b)⟩
theorem iU {c:Rat}(c0:c≠0){m:List Nat}(Y:L8 m):∀(q p:List Qm),PO o p->PO o q->
  PO o (Tq o c m p q)/\(∀x∈Tq o c m p q,(∃y∈p,y.2=x.2)\/∃u∈q,x.2=Xg u.2 m)/\∀g,Wc (Tq o c m p q) g=Wc p g+c*Wc q fun k=>g (Xg k m)
 |[],p,hp,_=>⟨by rw[Tq];exact hp,fun x d=>by rw[Tq]at d;exact .inl ⟨x,d,rfl⟩,fun g=>by rw[Tq];simp only[Wc];grind⟩
 |t::q,p,hp,hq=>by
  have P:=hq.q8 t (Ze ..);have j:=VU P Y;obtain⟨T,U⟩:=eJ (Xg t.2 m) hp j;have f:=mW o (Xg t.2 m) p;have L:c*t.1≠0:=To c0 (hq.nz t (Ze ..));have N:∀u∈q,WE o (Xg u.2 m) (Xg t.2 m):=fun u D=>by
   have:=((Zv.1 hq.pw).1 u D).add Y (hq.q8 u (Zc _ D)) P
   rwa[XP m,XP m]at this
  have key:∀(R r:List Qm),(Vt o (Xg t.2 m) p).2=R->r.Sublist R->(∀x∈r,WE o x.2 (Xg t.2 m))->PO o (Tq o c m r q)/\(∀x∈Tq o c m r q,WE o x.2 (Xg t.2 m))/\(∀x∈Tq o c m r q,(∃y∈p,y.2=x.2)\/∃u∈q,x.2=Xg u.2 m)/\∀g,Wc (Tq o c m r q) g=Wc r g+c*Wc q fun k=>g (Xg k m):=by
   intro R r hR hs W;have K:r.Sublist p:=by rw[<-f,hR];exact hs.trans (List.sublist_append_right ..)
   obtain⟨E,n,F⟩:=iU c0 Y q r (hp.sub K) hq.tail;refine⟨E,fun x d=> ?_,fun x d=> ?_,F⟩
   ·rcases n x d with⟨y,hy,e⟩|⟨u,D,e⟩
    ·rw[<-e];exact W y hy
    ·rw[e];exact N u D
   ·rcases n x d with⟨y,hy,e⟩|⟨u,D,e⟩
    ·exact .inl ⟨y,K.subset hy,e⟩
    ·exact .inr ⟨u,D,e⟩
  have w:(Vt o (Xg t.2 m) p).1.Sublist p:=by
   have:=List.sublist_append_left (Vt o (Xg t.2 m) p).1 (Vt o (Xg t.2 m) p).2
   rwa[f]at this
  have l:∀g,Wc p g=Wc (Vt o (Xg t.2 m) p).1 g+Wc (Vt o (Xg t.2 m) p).2 g:=fun g=>by
   rw[<-Rc,f]
  unfold Tq;generalize a1:Vt o (Xg t.2 m) p=sp at T U f key w l;obtain⟨os,R⟩:=sp;simp only at T U f key w l;have A:=hp.sub w;have v:∀(X:List Qm),PO o X->(∀x∈X,aQ o x.2 (Xg t.2 m))->PO o (os++X):=fun X hX V=>A.app hX fun a ha b hb=>(V b hb).lt (hX.q8 b hb) j (A.q8 a ha) (T a ha)
  have Q:∀(X:List Qm),(∀x∈X,(∃y∈p,y.2=x.2)\/∃u∈t::q,x.2=Xg u.2 m)->∀x∈os++X,(∃y∈p,y.2=x.2)\/∃u∈t::q,x.2=Xg u.2 m:=fun X h x d=>by
   rcases Yc.1 d with d|d
   ·exact .inl ⟨x,w.subset d,rfl⟩
   ·exact h x d
  have S:∀{x:Qm},((∃y∈p,y.2=x.2)\/∃u∈q,x.2=Xg u.2 m)->(∃y∈p,y.2=x.2)\/∃u∈t::q,x.2=Xg u.2 m:=fun h=>by
   rcases h with h|⟨u,D,e⟩
   ·exact .inl h
   ·exact .inr ⟨u,Zc _ D,e⟩
  have i:∀(z:Rat),(∃y∈p,y.2=((z,Xg t.2 m):Qm).2)\/∃u∈t::q,((z,Xg t.2 m):Qm).2=Xg u.2 m:=fun z=>.inr ⟨t,Ze ..,rfl⟩
  cases R with
  |nil=>
   obtain⟨E,n,F,J⟩:=key [] [] rfl (List.Sublist.refl _) (fun _ h=>by cases h);refine⟨v _ (E.cons L j n) fun x d=> ?_,Q _ fun x d=> ?_,fun g=> ?_⟩
   ·rcases Zj.1 d with rfl|d
    ·exact .inl rfl
    ·exact .inr (n x d)
   ·rcases Zj.1 d with rfl|d
    ·exact i _
    ·exact S (F x d)
   ·rw[Rc,l];simp only[Wc,J];grind
  |cons s G=>
   have C:=U s (Ze ..);have H:(s::G).Sublist p:=by
    have:=List.sublist_append_right os (s::G)
    rwa[f]at this
   have I:=hp.sub H;have Z:∀x∈G,WE o x.2 s.2:=(Zv.1 I.pw).1;have a0:=I.q8 s (Ze ..);have B:∀x∈G,WE o x.2 (Xg t.2 m):=fun x d=>(Z x d).le (I.q8 x (Zc _ d)) a0 j C
   by_cases M:s.2=Xg t.2 m
   ·simp only[M,if_true];obtain⟨E,n,F,J⟩:=key (s::G) G rfl (List.sublist_cons_self ..) B;by_cases h0:s.1+c*t.1=0
    ·rw[if_pos h0];refine⟨v _ E fun x d=>.inr (n x d),Q _ fun x d=>S (F x d),fun g=> ?_⟩;rw[Rc,l];simp only[Wc,J,M];have :s.1*g (Xg t.2 m)+c*t.1*g (Xg t.2 m)=0:=by rw[<-Rat.add_mul,h0,Rat.zero_mul]
     grind
    ·rw[if_neg h0];refine⟨v _ (E.cons h0 j n) fun x d=> ?_,Q _ fun x d=> ?_,fun g=> ?_⟩
     ·rcases Zj.1 d with rfl|d
      ·exact .inl rfl
      ·exact .inr (n x d)
     ·rcases Zj.1 d with rfl|d
      ·exact i _
      ·exact S (F x d)
     ·rw[Rc,l];simp only[Wc,J,M];grind
   ·simp only[M,if_false];have O:WE o s.2 (Xg t.2 m):=C.resolve_left M;obtain⟨E,n,F,J⟩:=key (s::G) (s::G) rfl (List.Sublist.refl _) (fun x d=>by
     rcases Zj.1 d with rfl|d
     ·exact O
     ·exact B x d)
    refine⟨v _ (E.cons L j n) fun x d=> ?_,Q _ fun x d=> ?_,fun g=> ?_⟩
    ·rcases Zj.1 d with rfl|d
     ·exact .inl rfl
     ·exact .inr (n x d)
    ·rcases Zj.1 d with rfl|d
     ·exact i _
     ·exact S (F x d)
    ·rw[Rc,l];simp only[Wc,J];grind
end Go.Num
namespace Go.Num
open Go.Ev
def WT:List Nat->List Nat->Nat
 |w::ws,e::es=>w*e+WT ws es
 |_,_=>0
theorem Vn:∀(w:List Nat) {m n:List Nat},m.length=n.length->WT w (Xg m n)=WT w m+WT w n
 |[],m,n,_=>by simp[WT]
 |a::w,[],[],_=>by simp[WT,Xg]
 |a::w,[],_::_,h=>by simp at h
 |a::w,_::_,[],h=>by simp at h
 |a::w,x::m,y::n,h=>by
  have b:=Vn w (m:=m) (n:=n) (by simpa using h);unfold Xg at b⊢;simp only[Zw,WT,b,Nat.mul_add];omega
theorem xd:∀{w m:List Nat},w.length=m.length->(∀a∈w,0<a)->∀e∈m,e<=WT w m
 |[],[],_,_,e,he=>by cases he
 |[],_::_,h,_,_,_=>by simp at h
 |a::w,x::m,h,hw,e,he=>by
  have c:=hw a (Ze ..);simp only[WT];rcases Zj.1 he with rfl|he
  ·have:=YQ e c;omega
  ·have:=xd (w:=w) (m:=m) (by simpa using h) (fun b d=>hw b (Zc _ d)) e he;omega
def allM:List Nat->Nat->List (List Nat)
 |[],_=>[[]]
 |a::w,W=>(List.range (W / a+1)).flatMap fun e=>(allM w (W-a*e)).map (e:: ·)
theorem SP:∀{w m:List Nat} {W:Nat},w.length=m.length->(∀a∈w,0<a)->WT w m<=W->m∈allM w W
 |[],[],_,_,_,_=>Ze ..
 |[],_::_,_,h,_,_=>by simp at h
 |a::w,[],_,h,_,_=>by simp at h
 |a::w,x::m,W,h,hw,hle=>by
  have c:=hw a (Ze ..);simp only[WT]at hle;unfold allM;refine Yo.2 ⟨x,List.mem_range.2 ?_,ZQ.2 ⟨m,SP (by simpa using h) (fun b d=>hw b (Zc _ d)) (by omega),rfl⟩⟩;have :x<=W / a:=(Nat.le_div_iff_mul_le c).2 (by rw[ZH];omega);omega
theorem Ol:∀{w m:List Nat} {W:Nat},m∈allM w W->(∀a∈w,0<a)->m.length=w.length/\WT w m<=W
 |[],m,_,h,_=>by
  simp only[allM,Zj,Z0,or_false]at h;subst h;exact⟨rfl,Zt _⟩
 |a::w,m,W,h,hw=>by
  have i:=hw a (Ze ..);unfold allM at h;obtain⟨e,k,l⟩:=Yo.1 h;obtain⟨o,c,rfl⟩:=ZQ.1 l;obtain⟨d,n⟩:=Ol c fun b j=>hw b (Zc _ j)
  have f:e<=W / a:=by have:=List.mem_range.1 k;omega
  have g:e*a<=W:=(Nat.le_div_iff_mul_le i).1 f;rw[ZH]at g;exact⟨by simp[d],by simp only[WT];omega⟩
def nV:List Nat->Nat->Nat
 |[],_=>1
 |a::w,W=>(W / a+1)*nV w W
theorem OC:∀(w:List Nat) {V W:Nat},V<=W->nV w V<=nV w W
 |[],_,_,_=>Zh _
 |a::w,V,W,h=>ZU (by have:=Nat.div_le_div_right (c:=a) h;omega) (OC w h)
theorem P4 {a d:Type}(f:a->List d)(c:Nat):∀(l:List a),(∀x∈l,(f x).length<=c)->(l.flatMap f).length<=l.length*c
 |[],_=>by simp
 |x::l,h=>by
  have g:=P4 f c l fun y b=>h y (Zc _ b)
  have e:=h x (Ze ..);simp only[Yw,Zk,Zi,Nat.succ_mul];omega
theorem pO:∀(w:List Nat) (W:Nat),(allM w W).length<=nV w W
 |[],_=>Zh _
 |a::w,W=>by
  unfold allM nV;refine Zy (P4 _ (nV w W) _ fun e _=> ?_) (by rw[List.length_range];exact Zh _);rw[ZP];exact Zy (pO w _) (OC w (Nat.sub_le ..))
def iE (o:List (List Int))(m:List Nat):List (List Nat)->List (List Nat)
 |[]=>[m]
 |n::l=>if WC o m n=.ofNat 1 then m::n::l else if m=n then n::l else n::iE o m l
def SK (o:List (List Int)):List (List Nat)->List (List Nat)
 |[]=>[]
 |m::l=>iE o m (SK o l)
variable {o:List (List Int)}
theorem fK {m x:List Nat}:∀{l:List (List Nat)},x∈iE o m l↔x=m\/x∈l
 |[]=>by simp[iE]
 |n::l=>by
  unfold iE;split
  ·simp
  ·split
   ·rename_i h;subst h;simp
   ·simp only[Zj,fK (l:=l)];constructor
    ·rintro (h|h|h)<;>simp[h]
    ·rintro (h|h|h)<;>simp[h]
theorem WZ {x:List Nat}:∀{l:List (List Nat)},x∈SK o l↔x∈l
 |[]=>by simp[SK]
 |m::l=>by simp only[SK,fK,WZ (l:=l),Zj]
theorem oL (m:List Nat):∀(l:List (List Nat)),(iE o m l).length<=l.length+1
 |[]=>by simp[iE]
 |n::l=>by
  have a:=oL m l;unfold iE;split
  ·simp
  ·split
   ·simp
   ·simp only[Zi];omega
theorem Qe:∀(l:List (List Nat)),(SK o l).length<=l.length
 |[]=>by simp[SK]
 |m::l=>by
  have:=oL (o:=o) m (SK o l);have:=Qe l;simp only[SK,Zi];omega
abbrev Ep (o:List (List Int))(l:List (List Nat)):Prop:=l.Pairwise fun a b=>WE o b a
theorem tV {m:List Nat}(d:L8 m):∀{l:List (List Nat)},Ep o l->(∀n∈l,L8 n)->Ep o (iE o m l)
 |[],_,_=>List.pairwise_singleton ..
 |n::l,h,h8=>by
  have f:=h8 n (Ze ..);have e:∀x∈l,L8 x:=fun x a=>h8 x (Zc _ a)
  obtain⟨g,i⟩:=Zv.1 h;unfold iE;by_cases b:WC o m n=.ofNat 1
  ·rw[if_pos b];refine Zv.2 ⟨fun x a=> ?_,h⟩;rcases Zj.1 a with rfl|a
   ·exact b
   ·exact(g x a).trans (e x a) f d b
  ·rw[if_neg b];by_cases c:m=n
   ·rw[if_pos c];exact h
   ·rw[if_neg c];refine Zv.2 ⟨fun x a=> ?_,tV d i e⟩;rcases fK.1 a with rfl|a
    ·rcases WE.CQ o d f with h|h|h
     ·exact h
     ·exact absurd h c
     ·exact absurd h b
    ·exact g x a
theorem NS:∀{l:List (List Nat)},(∀n∈l,L8 n)->Ep o (SK o l)
 |[],_=>.nil
 |m::l,h=>tV (h m (Ze ..)) (NS fun x b=>h x (Zc _ b)) fun n a=>h n (Zc _ (WZ.1 a))
theorem PO.fQ:∀{l:List (List Nat)} {p:List Qm},Ep o l->(∀n∈l,L8 n)->PO o p->(∀t∈p,t.2∈l)->p.length<=l.length
 |[],[],_,_,_,_=>Zh _
 |[],t::p,_,_,_,h=>by have:=h t (Ze ..);cases this
 |δ::l,[],_,_,_,_=>Zt _
 |δ::l,t::p,hl,h8,hp,h=>by
  obtain⟨f,g⟩:=Zv.1 hl;have b:∀n∈l,L8 n:=fun n d=>h8 n (Zc _ d)
  have :∀u∈p,u.2∈l:=fun u c=>by
   have a:=(Zv.1 hp.pw).1 u c;rcases Zj.1 (h u (Zc _ c))with e|e
   ·rcases Zj.1 (h t (Ze ..))with e2|e2
    ·rw[e,e2]at a;exact absurd a WE.zh
    ·rw[e]at a;exact absurd a ((f _ e2).asymm (b _ e2) (h8 δ (Ze ..)))
   ·exact e
  have:=PO.fQ g b hp.tail this;simp only[Zi];omega
def Cf (C:Nat)(ts:List Qm):Prop:=∃D:Nat,0<D/\D<=C/\∀t∈ts,∃z:Int,t.1*(D:Rat)=(z:Rat)/\z.natAbs<=C
theorem Cf.sub {C:Nat}{a b:List Qm}(h:Cf C a)(f:∀t∈b,t∈a):Cf C b:=by
 obtain⟨D,c,d,e⟩:=h;exact⟨D,c,d,fun t g=>e t (f t g)⟩
theorem tf (x:Rat):(x.num:Rat)=x*(x.den:Rat):=by
 have h:(x.den:Rat)≠0:=by
  intro h;exact x.den_nz (by exact_mod_cast h)
 have a:=Rat.mkRat_self x;rw[Rat.mkRat_eq_div]at a;have b:(x.num:Rat) / (x.den:Rat)*(x.den:Rat)=x.num:=Rat.div_mul_cancel h;rw[a]at b;exact b.symm
theorem ym {x:Rat}{D:Nat}(a:0<D){z:Int}(h:x*(D:Rat)=(z:Rat)):x.num.natAbs<=z.natAbs/\x.den<=D:=by
 have i:(x.num:Rat)*D=z*x.den:=by
  have c:=tf x;rw[c,Rat.mul_assoc,Rat.mul_comm (x.den:Rat),<-Rat.mul_assoc,h]
 have g:x.num*(D:Int)=z*(x.den:Int):=by
  have :((x.num*(D:Int):Int):Rat)=((z*(x.den:Int):Int):Rat):=by
   rw[Yg,Yg];exact i
  exact Rat.intCast_inj.1 this
 have b:x.num.natAbs*D=z.natAbs*x.den:=by
  have:=congrArg Int.natAbs g
  rwa[Yf,Yf,Z3,Z3]at this
 have d:x.den ∣ D:=by
  have :x.den ∣ x.num.natAbs*D:=⟨z.natAbs,by rw[b,ZH]⟩;exact Nat.Coprime.dvd_of_dvd_mul_left (Nat.Coprime.symm x.reduced) this
 obtain⟨e,rfl⟩:=d;refine⟨?_,Nat.le_of_dvd a ⟨e,rfl⟩⟩;have f:0<e:=by
  rcases Yh e with h0|h0
  ·subst h0;simp at a
  ·exact h0
 have :x.num.natAbs*e=z.natAbs:=by
  apply Nat.eq_of_mul_eq_mul_right x.den_pos;rw[<-b,Yi,ZH e]
 rw[<-this];exact YK _ f
end Go.Num
