/- Orders of monomials and sums of products: plain facts. -/
import Derived.Test.YtidginchkjhobaaGreatQDvdB
namespace Go.Ev
open Go.Proofs.YtidginchkjhobaaGreat
theorem B1:∀o m n,WY o m n=.ofNat 1\/WY o m n=.negSucc 0\/WY o m n=.ofNat 0:=Sf
def Wz (o:M')(m n:P'):Prop:=WY o n m=.ofNat 1
instance (o:M')(m n:P'):Decidable (Wz o m n):=by unfold Wz;infer_instance
abbrev L8 (m:P'):Prop:=m.length=8
theorem Wz.trans {o}{l m n}(d:L8 l)(a:L8 m)(e:L8 n)(b:Wz o l m)(c:Wz o m n):Wz o l n:=
 bA (e.trans a.symm) (a.trans d.symm) c b
theorem Wz.vD {o}{m}:¬Wz o m m:=by grind [Wz,PN]
theorem Wz.K6 (o){m n}(a:L8 m)(b:L8 n):Wz o m n\/m=n\/Wz o n m:=by
 rcases B1 o n m with h|h|h
 ·exact .inl h
 ·exact .inr (.inr (PR.1 h))
 ·exact .inr (.inl (aw (b.trans a.symm) h).symm)
theorem Wz.ne {o}{m n}(h:Wz o m n):m≠n:=fun e=>Wz.vD (e▸h)
theorem Wz.asymm {o}{m n}(a:L8 m)(b:L8 n)(h:Wz o m n):¬Wz o n m:=by grind [Wz.vD,Wz.trans]
theorem XL (m n):Xg m n=Xg n m:=by grind [Xg,List.zipWith_comm]
theorem Vj:∀a b c,Xg (Xg a b) c=Xg a (Xg b c)
 |[],_,_=>by simp[Xg]
 |_::_,[],_=>by simp[Xg]
 |_::_,_::_,[]=>by simp[Xg]
 |x::a,y::b,z::c=>by
  have d:=Vj a b c
  grind [Xg,Zz]
theorem Wo {m n}(a:L8 m)(b:L8 n):L8 (Xg m n):=by simp[L8,Xg,a,b]
theorem Va {m n}(a:L8 m)(b:L8 n):L8 (XO m n):=by simp[L8,XO,a,b]
theorem Q9 {m n}(a:L8 m)(b:L8 n):L8 (XM m n):=by simp[L8,XM,a,b]
theorem UH:∀{a b c},a.length=b.length->a.length=c.length->Xg a b=Xg a c->b=c
 |[],[],[],_,_,_=>rfl
 |[],[],_::_,_,h,_=>by simp at h
 |[],_::_,_,h,_,_=>by simp at h
 |_::_,[],_,h,_,_=>by simp at h
 |_::_,_::_,[],_,h,_=>by simp at h
 |x::a,y::b,z::c,h1,h2,h=>by
  unfold Xg at h;simp only[Zz,ZG]at h;rw[show y=z by omega,UH (a:=a) (b:=b) (c:=c) (by simpa using h1) (by simpa using h2) h.2]
theorem Cs:∀r {k m},k.length=m.length->wt r (Xg k m)=wt r k+wt r m
 |[],k,m,_=>by simp[wt]
 |w::r,[],[],_=>by simp[wt,Xg]
 |w::r,[],_::_,h=>by simp at h
 |w::r,_::_,[],h=>by simp at h
 |w::r,a::k,b::m,h=>by
  have c:=Cs r (k:=k) (m:=m) (by simpa using h)
  grind [Xg,Zz,wt]
theorem oF:∀o {k m n},L8 k->L8 m->L8 n->WY o (Xg k m) (Xg k n)=WY o m n
 |[],k,m,n,hk,hm,hn=>bC k m n (hk.trans hm.symm) (hm.trans hn.symm)
 |r::o,k,m,n,hk,hm,hn=>by
  have a:=oF o hk hm hn
  simp_all [WY,Cs]
theorem Wz.add {o}{k m n}(a:L8 k)(b:L8 m)(c:L8 n)(h:Wz o m n):Wz o (Xg k m) (Xg k n):=by grind [Wz,oF]
def bG (o:M')(m n:P'):Prop:=m=n\/Wz o m n
theorem bG.add {o}{k m n}(a:L8 k)(b:L8 m)(c:L8 n)(h:bG o m n):bG o (Xg k m) (Xg k n):=by
 rcases h with rfl|h
 ·exact .inl rfl
 ·exact .inr (h.add a b c)
theorem bG.lt {o}{l m n}(b:L8 l)(c:L8 m)(d:L8 n)(h:bG o l m)(a:Wz o m n):Wz o l n:=by
 rcases h with rfl|h
 ·exact a
 ·exact h.trans b c d a
theorem Wz.le {o}{l m n}(b:L8 l)(c:L8 m)(d:L8 n)(h:Wz o l m)(a:bG o m n):Wz o l n:=by
 rcases a with rfl|a
 ·exact h
 ·exact h.trans b c d a
theorem bG.trans {o}{l m n}(b:L8 l)(c:L8 m)(d:L8 n)(h:bG o l m)(a:bG o m n):bG o l n:=by
 rcases h with rfl|h
 ·exact a
 ·exact .inr (h.le b c d a)
structure Pl (f:I'):Prop where
 dc:Ph f
 q8:Q8 f
theorem Pl.nil:Pl []:=⟨.nil,fun _ h=>by cases h⟩
theorem Pl.uniq {f}(h:Pl f){s u}(a:s∈f)(b:u∈f)(e:u.2=s.2):u=s:=by
 have c:=h.dc.UU s a;have d:=h.dc.UU u b
 grind
theorem wS (o):∀a b,V7 o b a∈b::a:=by grind [PB]
theorem eK (o):∀a b,L8 b.2->(∀t∈a,L8 t.2)->∀u∈b::a,bG o u.2 (V7 o b a).2
 |[],b,hb,_,u,hu=>by
  simp only[Zk,ZQ,or_false]at hu;subst hu;exact .inl rfl
 |t::a,b,hb,i,u,hu=>by
  have f:=i t (Zc ..);have d:∀t∈a,L8 t.2:=fun x j=>i x (Za _ j)
  simp only[V7];by_cases e:WY o t.2 b.2=.ofNat 1
  ·rw[if_pos e];have g:=eK o a t f d;have c:L8 (V7 o t a).2:=by
    grind [PB]
   rcases Zk.1 hu with rfl|hu
   ·exact .inr (Wz.le hb f c e (g t (Zc ..)))
   ·exact g u hu
  ·rw[if_neg e];have g:=eK o a b hb d;have c:L8 (V7 o b a).2:=by
    grind [PB]
   rcases Zk.1 hu with rfl|hu
   ·grind
   ·rcases Zk.1 hu with rfl|hu
    ·rcases Wz.K6 o f hb with h|h|h
     ·exact .inr (Wz.le f hb c h (g b (Zc ..)))
     ·grind
     ·exact absurd h e
    grind
theorem Xy {o}{f}(a:Pl f){s}(h:XB o f=some s):s∈f/\L8 s.2/\s.1≠0/\∀u∈f,u=s\/Wz o u.2 s.2:=by
 cases f with
 |nil=>cases h
 |cons t d=>
  simp only[XB,Zb]at h;subst h;have b:=wS o d t;refine⟨b,a.q8 _ b,a.dc.nz _ b,fun u c=> ?_⟩;rcases eK o d t (a.q8 _ (Zc ..)) (fun x e=>a.q8 x (Za _ e)) u c with h|h
  ·exact .inl (a.uniq b c h)
  ·exact .inr h
theorem Vy {o}{f}(h:XB o f=none):f=[]:=by
 cases f with
 |nil=>rfl
 |cons t a=>cases h
theorem jZ {o}{f}(a:Pl f){s}(h:XB o f=some s):∀u∈f,bG o u.2 s.2:=fun u b=>by
 rcases(Xy a h).2.2.2 u b with h|h
 ·exact .inl (by rw[h])
 ·exact .inr h
def WJ (n:P'):P'->Rat:=fun k=>if k=n then 1 else 0
theorem Wm (f)(n):TD f n=XZ f (WJ n):=rfl
theorem SK {f}{a:P'->Rat}(h:∀u∈f,a u.2=0):XZ f a=0:=by
 rw[Uy (ψ:=fun _=>0) h,SJ]
theorem aV {f}(a:Pl f){s}(b:s∈f){φ:P'->Rat}(h:∀u∈f,u=s\/φ u.2=0):XZ f φ=φ s.2*s.1:=by
 have:=a.dc.UU s b;rw[<-this];unfold TD;rw[<-cq]
 grind [Uy]
abbrev Fn:=(P'->Rat)->Rat
inductive UP (o:M')(fs:S')(P:P'->Prop):Fn->Prop
 |zero {v:Fn} (h:∀φ,v φ=0):UP o fs P v
 |add {v w:Fn} {f:I'} {s:Qm} {c:Rat} {m:P'} (hf:f∈fs) (hs:XB o f=some s) (hm:L8 m) (hP:P (Xg m s.2)) (hw:UP o fs P w) (hv:∀φ,v φ=w φ+c*XZ f fun k=>φ (Xg m k)):UP o fs P v
variable {o:M'}{fs:S'}{P Q:P'->Prop}{v w:Fn}
theorem UP.congr (h:UP o fs P v)(e:∀a,w a=v a):UP o fs P w:=by
 cases h with
 |zero h=>exact .zero fun a=>by rw[e,h]
 |add c f d b i g=>exact .add c f d b i fun a=>by rw[e,g]
theorem UP.mono (h:UP o fs P v)(k:∀n,P n->Q n):UP o fs Q v:=by
 induction h with
 |zero h=>exact .zero h
 |add b d c a g e f=>exact .add b d c (k _ a) f e
theorem UP.plus (h:UP o fs P v)(k:UP o fs P w):UP o fs P fun a=>v a+w a:=by
 induction h with
 |zero h=>exact k.congr fun a=>by rw[h];grind
 |@add v w f s c m d g e b l i j=>exact .add (c:=c) d g e b j fun a=>by rw[i];grind
theorem UP.smul (a)(h:UP o fs P v):UP o fs P fun b=>a*v b:=by
 induction h with
 |zero h=>exact .zero fun b=>by rw[h];grind
 |@add v w f s c m e i g d l j k=>exact .add (c:=a*c) e i g d k fun b=>by rw[j];grind
theorem UP.shift {d}(b:L8 d)(g:∀f∈fs,Pl f)(h:UP o fs P v)(k:∀n,P n->Q (Xg d n)):UP o fs Q fun a=>v fun n=>a (Xg d n):=by
 induction h with
 |zero h=>exact .zero fun a=>h _
 |@add v w f s c m e j i p r q l=>
  refine .add (c:=c) e j (Wo b i) (by grind [Vj]) l fun a=> ?_
  grind [Vj]
theorem UP.one (e:∀f∈fs,Pl f){f}{s}{c}{m}(d:f∈fs)(h:XB o f=some s)(g:L8 m)(b:P (Xg m s.2)):UP o fs P fun a=>c*XZ f fun k=>a (Xg m k):=
 .add (c:=c) d h g b (.zero fun _=>rfl) fun a=>by grind
theorem UP.prod {f}{s}(b:f∈fs)(d:XB o f=some s):∀{q},(∀u∈q,L8 u.2/\P (Xg u.2 s.2))->UP o fs P fun a=>XZ q fun m=>XZ f fun k=>a (Xg m k)
 |[],_=>.zero fun a=>rfl
 |u::q,h=>by
  have j:=UP.prod b d (q:=q) fun x i=>h x (Za _ i)
  obtain⟨e,g⟩:=h u (Zc ..);exact .add (c:=u.1) b d e g j fun a=>by simp only[XZ];grind
theorem UP.top (a:∀f∈fs,Pl f)(h:UP o fs P v){n}(q:L8 n)(k:∀x,P x->Wz o x n):v (WJ n)=0:=by
 induction h with
 |zero h=>exact h _
 |@add v w f s c m d j g p B r t=>
  obtain⟨y,i,z,A⟩:=Xy (a f d) j;rw[r,t,SK]
  ·grind
  ·intro u l;have b:=(a f d).q8 u l;have e:Wz o (Xg m u.2) n:=by
    have:=jZ (a f d) j u l;exact bG.lt (Wo g b) (Wo g i) q (this.add g b i) (k _ p)
   unfold WJ;rw[if_neg e.ne]
theorem UP.join (p:∀f∈fs,Pl f){δ}(x:∀n,P n->n=δ\/Q n)
  (q:∀f∈fs,∀g∈fs,∀s t m k,XB o f=some s->XB o g=some t->L8 m->L8 k->Xg m s.2=δ->Xg k t.2=δ->UP o fs Q fun a=>t.1*(XZ f fun n=>a (Xg m n))-s.1*XZ g fun n=>a (Xg k n))
  (h:UP o fs P v):UP o fs Q v\/∃f s m c w,f∈fs/\XB o f=some s/\L8 m/\Xg m s.2=δ/\UP o fs Q w/\∀a,v a=w a+c*XZ f fun k=>a (Xg m k):=by
 induction h with
 |zero h=>exact .inl (.zero h)
 |@add v w f s c m i l j u z r b=>
  rcases x _ u with e|hq
  ·rcases b with b|⟨f0,s0,m0,c0,w0,a1,a2,a3,a4,a5,a6⟩
   ·exact .inr ⟨f,s,m,c,w,i,l,j,e,b,r⟩
   ·have d:=q f i f0 a1 s s0 m m0 l a2 j a3 e a4;have y:=(Xy (p f0 a1) a2).2.2.1;refine .inr ⟨f0,s0,m0,c0+c*s.1 / s0.1,_,a1,a2,a3,a4,a5.plus (d.smul (c / s0.1)),fun a=> ?_⟩
    grind
  ·rcases b with b|⟨f0,s0,m0,c0,w0,a1,a2,a3,a4,a5,a6⟩
   ·exact .inl (.add i l j hq b r)
   ·exact .inr ⟨f0,s0,m0,c0,_,a1,a2,a3,a4,.add (v:=fun a=>w0 a+c*XZ f fun k=>a (Xg m k)) (c:=c) i l j hq a5 (fun a=>rfl),fun a=>by grind⟩
theorem UP.lead (e:∀f∈fs,Pl f){W:P'->Prop}(r:∀n,W n->L8 n)
  (y:∀δ,W δ->∀f∈fs,∀g∈fs,∀s t m k,XB o f=some s->XB o g=some t->L8 m->L8 k->Xg m s.2=δ->Xg k t.2=δ->UP o fs (fun n=>W n/\Wz o n δ) fun H=>t.1*(XZ f fun n=>H (Xg m n))-s.1*XZ g fun n=>H (Xg k n)):
  ∀(l:J'),(∀n∈l,W n)->l.Pairwise (fun a b=>Wz o b a)->(∀δ∈l,∀n,W n->Wz o n δ->n∈l)->∀v:Fn,UP o fs (fun n=>n∈l) v->
   (∀n,L8 n->v (WJ n)=0)\/∃δ f s,v (WJ δ)≠0/\δ∈l/\(∀n,L8 n->Wz o δ n->v (WJ n)=0)/\f∈fs/\XB o f=some s/\Ww s.2 δ=true
 |[],_,_,_,v,h=>by
  refine .inl fun n _=> ?_
  cases h with
  |zero h=>exact h _
  |add _ _ _ O _ _=>cases O
 |δ::l,F,hp,K,v,h=>by
  obtain⟨G,X⟩:=Zu.1 hp;have q:=r δ (F δ (Zc ..));have p:∀n∈l,W n:=fun n i=>F n (Za _ i)
  have C:∀d∈l,∀n,W n->Wz o n d->n∈l:=fun d E n i j=>by
   rcases Zk.1 (K d (Za _ E) n i j)with rfl|h
   ·exact absurd (G d E) (j.asymm (r _ i) (r _ (p d E)))
   ·exact h
  have step:UP o fs (fun n=>n∈l) v->_:=fun B=>UP.lead e r y l p X C v B
  rcases h.join (Q:=fun n=>n∈l) (δ:=δ) e (fun n i=>Zk.1 i) (fun f P g R s t m k U V T S e1 e2=>(y δ (F δ (Zc ..)) f P g R s t m k U V T S e1 e2).mono fun n i=>by
   rcases Zk.1 (K δ (Zc ..) n i.1 i.2)with rfl|h
   ·grind [Wz.vD]
   ·exact h)with B|⟨f,s,m,c,w,a1,a2,a3,a4,a5,a6⟩
  ·rcases step B with h|⟨d,f,s,b1,b2,b3⟩
   ·exact .inl h
   grind
  ·by_cases D:c=0
   ·rcases step (a5.congr fun H=>by rw[a6,D];grind)with h|⟨d,f,s,b1,b2,b3⟩
    ·exact .inl h
    ·exact .inr ⟨d,f,s,b1,Za _ b2,b3⟩
   ·obtain⟨M,I,Y,N⟩:=Xy (e f a1) a2;refine .inr ⟨δ,f,s,?_,Zc ..,fun n i j=> ?_,a1,a2,?_⟩
    ·rw[a6,a5.top e q G,aV (e f a1) M (fun u z=> ?_)]
     ·grind [WJ]
     ·rcases N u z with h|h
      ·exact .inl h
      ·right;have:=h.add a3 ((e f a1).q8 u z) I;rw[a4]at this;unfold WJ;rw[if_neg this.ne]
    ·rw[a6,a5.top e i (fun x L=>(G x L).trans (r _ (p x L)) q i j),SK]
     ·grind
     ·intro u z;have A:=(e f a1).q8 u z;have J:=(jZ (e f a1) a2 u z).add a3 A I;rw[a4]at J;unfold WJ;rw[if_neg (J.lt (Wo a3 A) q i j).ne]
    grind [XL,TW]
structure Nz (ts:I'):Prop where
 nd:(ts.map (·.2)).Nodup
 nz:∀t∈ts,t.1≠0
 q8:∀t∈ts,L8 t.2
theorem Nz.nil:Nz []:=⟨by simp,(fun _ h=>by cases h),(fun _ h=>by cases h)⟩
theorem Nz.tail {t}{b}(h:Nz (t::b)):Nz b:=⟨(List.nodup_cons.1 h.nd).2,fun x a=>h.nz x (Za _ a),fun x a=>h.q8 x (Za _ a)⟩
theorem Nz.U4:∀{a},Nz a->∀t∈a,TD a t.2=t.1
 |u::a,h,t,ht=>by
  have b:=(List.nodup_cons.1 h.nd).1;rw[PM];rcases Zk.1 ht with rfl|ht
  ·grind [QC]
  ·rw[if_neg (fun e=>b (ZM.2 ⟨t,ht,e.symm⟩)),h.tail.U4 t ht];grind
theorem Nz.mem {a}(h:Nz a){m}(c:TD a m≠0):(TD a m,m)∈a:=by
 by_cases e:∃t∈a,t.2=m
 ·obtain⟨t,b,rfl⟩:=e;rw[h.U4 t b];exact b
 grind [QC]
theorem Nz.same {b c}(h:Nz b)(k:Nz c)(e:∀m,L8 m->TD b m=TD c m){t}(a:t∈b):t∈c:=by
 have d:=h.U4 t a;rw[e _ (h.q8 t a)]at d;have:=k.mem (m:=t.2) (by rw[d];exact h.nz t a)
 grind
theorem Pl.Sk {a}(h:Pl a):Nz a:=by
 refine⟨?_,h.dc.nz,h.q8⟩;rw[List.nodup_iff_pairwise_ne,List.pairwise_map];exact h.dc.pw.imp fun e=>qU e
structure PO (o:M')(ts:I'):Prop where
 pw:ts.Pairwise fun t u=>Wz o u.2 t.2
 nz:∀t∈ts,t.1≠0
 q8:∀t∈ts,L8 t.2
variable {o:M'}
theorem PO.nil:PO o []:=⟨.nil,(fun _ h=>by cases h),(fun _ h=>by cases h)⟩
theorem PO.tail {t}{b}(h:PO o (t::b)):PO o b:=⟨(Zu.1 h.pw).2,fun x a=>h.nz x (Za _ a),fun x a=>h.q8 x (Za _ a)⟩
theorem PO.cons {t}{b}(h:PO o b)(h0:t.1≠0)(c:L8 t.2)(d:∀u∈b,Wz o u.2 t.2):PO o (t::b):=
 ⟨Zu.2 ⟨d,h.pw⟩,fun x a=>by rcases Zk.1 a with rfl|a;exact h0;exact h.nz x a,fun x a=>by rcases Zk.1 a with rfl|a;exact c;exact h.q8 x a⟩
theorem PO.app {b c}(h:PO o b)(k:PO o c)(d:∀t∈b,∀u∈c,Wz o u.2 t.2):PO o (b++c):=
 ⟨List.pairwise_append.2 ⟨h.pw,k.pw,d⟩,fun x a=>by rcases ZS.1 a with a|a;exact h.nz x a;exact k.nz x a,fun x a=>by rcases ZS.1 a with a|a;exact h.q8 x a;exact k.q8 x a⟩
theorem PO.Sk {a}(h:PO o a):Nz a:=by
 refine⟨?_,h.nz,h.q8⟩;rw[List.nodup_iff_pairwise_ne,List.pairwise_map];exact h.pw.imp fun e=>(Wz.ne e).symm
theorem PO.dc {a}(h:PO [] a):Pl a:=⟨⟨h.nz,h.pw⟩,h.q8⟩
theorem R4 (c:P'->Rat):∀b a,XZ (b++a) c=XZ b c+XZ a c
 |[],a=>by grind [XZ]
 |t::b,a=>by simp only[ZD,XZ,R4 c b a];grind
theorem Pv {φ:P'->Rat}{a b}(h:a.Perm b):XZ a φ=XZ b φ:=by
 induction h with
 |nil=>rfl
 |cons x _ e=>simp only[XZ,e]
 |swap x y l=>simp only[XZ];grind
 |trans _ _ c d=>rw[c,d]
theorem zd {t}(h0:t.1≠0)(c:L8 t.2):∀{d},PO o d->(∀u∈d,u.2≠t.2)->PO o (ui o t d)
 |[],_,_=>PO.cons .nil h0 c fun _ h=>by cases h
 |u::us,h,hn=>by
  have b:=h.q8 u (Zc ..);have f:=zd h0 c h.tail fun x a=>hn x (Za _ a)
  unfold ui;rcases Wz.K6 o c b with h1|h1|h1
  ·have e:S6 (WY o t.2 u.2) (.ofNat 0)=true:=by
    rw[PR.2 h1];rfl
   rw[e];refine PO.cons f (h.nz u (Zc ..)) b fun x a=> ?_
   rcases Zk.1 ((eM o t us).mem_iff.1 a)with rfl|a
   ·exact h1
   ·exact(Zu.1 h.pw).1 x a
  ·grind
  ·have e:S6 (WY o t.2 u.2) (.ofNat 0)=false:=by
    unfold Wz at h1;rw[h1];rfl
   rw[e];refine PO.cons h h0 c fun x a=> ?_
   rcases Zk.1 a with rfl|a
   ·exact h1
   ·exact((Zu.1 h.pw).1 x a).trans (h.q8 x (Za _ a)) b c h1
theorem Th:∀{a},Nz a->PO o (VI o a)
 |[],_=>.nil
 |t::a,h=>by
  have c:=Th h.tail;refine zd (h.nz t (Zc ..)) (h.q8 t (Zc ..)) c fun u b e=> ?_
  exact(List.nodup_cons.1 h.nd).1 (ZM.2 ⟨u,(W0 o a).mem_iff.1 b,e⟩)
theorem cp (b:P'->Rat)(a):XZ (VI o a) b=XZ a b:=Pv (W0 o a)
theorem PA {f}(b:Pl f){s}{k}(h:VI o f=s::k):XB o f=some s:=by
 have c:=W0 o f;rw[h]at c;have a:=Th (o:=o) b.Sk;rw[h]at a;have d:s∈f:=c.mem_iff.1 (Zc ..);cases j:XB o f with
 |none=>grind [Vy]
 |some t=>
  obtain⟨e,g,l,i⟩:=Xy b j;rcases i s d with rfl|h5
  ·rfl
  ·rcases Zk.1 (c.mem_iff.2 e)with rfl|h6
   ·exact absurd h5 Wz.vD
   ·exact absurd h5 (((Zu.1 a.pw).1 t h6).asymm g (b.q8 s d))
theorem si (o)(mm)(p):(Uk o mm p).1++(Uk o mm p).2=p:=P5 o mm p
theorem iQ (mm):∀{p},PO o p->L8 mm->(∀x∈(Uk o mm p).1,Wz o mm x.2)/\(∀x∈(Uk o mm p).2,bG o x.2 mm)
 |[],_,_=>⟨(fun _ h=>by cases h),(fun _ h=>by cases h)⟩
 |s::p,h,hm=>by
  have c:=h.q8 s (Zc ..);unfold Uk;by_cases d:WY o s.2 mm=.ofNat 1
  ·rw[if_pos d];obtain⟨e,f⟩:=iQ mm h.tail hm;refine⟨fun x a=> ?_,f⟩;rcases Zk.1 a with rfl|a
   ·exact d
   ·exact e x a
  ·rw[if_neg d];refine⟨(fun _ h=>by cases h),fun x a=> ?_⟩;have b:bG o s.2 mm:=by
    rcases Wz.K6 o c hm with h2|h2|h2
    ·exact .inr h2
    ·exact .inl h2
    ·exact absurd h2 d
   rcases Zk.1 a with rfl|a
   ·exact b
   ·exact .inr (((Zu.1 h.pw).1 x a).le (h.q8 x (Za _ a)) c hm b)
theorem PO.sub {p q}(h:PO o p)(a:q.Sublist p):PO o q:=⟨h.pw.sublist a,fun t b=>h.nz t (a.subset b),fun t b=>h.q8 t (a.subset b)⟩
theorem nc {c}(W:c≠0){m}(S:L8 m):∀q p,PO o p->PO o q->
  PO o (T7 o c m p q)/\(∀x∈T7 o c m p q,(∃y∈p,y.2=x.2)\/∃u∈q,x.2=Xg u.2 m)/\∀f,XZ (T7 o c m p q) f=XZ p f+c*XZ q fun k=>f (Xg k m)
 |[],p,hp,_=>⟨by rw[T7];exact hp,fun x d=>by grind [T7],fun f=>by grind [T7,XZ]⟩
 |t::q,p,hp,hq=>by
  have J:=hq.q8 t (Zc ..);have i:=Wo J S;obtain⟨M,N⟩:=iQ (Xg t.2 m) hp i;have j:=si o (Xg t.2 m) p;have H:c*t.1≠0:=T6 W (hq.nz t (Zc ..));have a0:∀u∈q,Wz o (Xg u.2 m) (Xg t.2 m):=fun u V=>by
   have:=((Zu.1 hq.pw).1 u V).add S (hq.q8 u (Za _ V)) J
   grind [XL]
  have key:∀(R l:I'),(Uk o (Xg t.2 m) p).2=R->l.Sublist R->(∀x∈l,Wz o x.2 (Xg t.2 m))->PO o (T7 o c m l q)/\(∀x∈T7 o c m l q,Wz o x.2 (Xg t.2 m))/\(∀x∈T7 o c m l q,(∃y∈p,y.2=x.2)\/∃u∈q,x.2=Xg u.2 m)/\∀f,XZ (T7 o c m l q) f=XZ l f+c*XZ q fun k=>f (Xg k m):=by
   intro R l hR hs a2;have O:l.Sublist p:=by grind
   obtain⟨E,n,F⟩:=nc W S q l (hp.sub O) hq.tail
   grind
  have B:(Uk o (Xg t.2 m) p).1.Sublist p:=by
   grind
  have D:∀f,XZ p f=XZ (Uk o (Xg t.2 m) p).1 f+XZ (Uk o (Xg t.2 m) p).2 f:=fun f=>by
   rw[<-R4,j]
  unfold T7;generalize a3:Uk o (Xg t.2 m) p=sp at M N j key B D;obtain⟨os,R⟩:=sp;simp only at M N j key B D;have v:=hp.sub B;have r:∀(X:I'),PO o X->(∀x∈X,bG o x.2 (Xg t.2 m))->PO o (os++X):=fun X Y Q=>v.app Y fun a Z b hb=>(Q b hb).lt (Y.q8 b hb) i (v.q8 a Z) (M a Z)
  have K:∀(X:I'),(∀x∈X,(∃y∈p,y.2=x.2)\/∃u∈t::q,x.2=Xg u.2 m)->∀x∈os++X,(∃y∈p,y.2=x.2)\/∃u∈t::q,x.2=Xg u.2 m:=fun X h x d=>by
   rcases ZS.1 d with d|d
   ·grind
   ·exact h x d
  have L:∀{x:Qm},((∃y∈p,y.2=x.2)\/∃u∈q,x.2=Xg u.2 m)->(∃y∈p,y.2=x.2)\/∃u∈t::q,x.2=Xg u.2 m:=fun h=>by
   rcases h with h|⟨u,V,e⟩
   ·exact .inl h
   grind
  have g:∀(z:Rat),(∃y∈p,y.2=((z,Xg t.2 m):Qm).2)\/∃u∈t::q,((z,Xg t.2 m):Qm).2=Xg u.2 m:=fun z=>.inr ⟨t,Zc ..,rfl⟩
  cases R with
  |nil=>
   obtain⟨E,n,F,k4⟩:=key [] [] rfl (List.Sublist.refl _) (fun _ h=>by cases h);refine⟨r _ (E.cons H i n) fun x d=> ?_,K _ fun x d=> ?_,fun f=> ?_⟩
   ·rcases Zk.1 d with rfl|d
    ·exact .inl rfl
    ·exact .inr (n x d)
   ·rcases Zk.1 d with rfl|d
    ·exact g _
    ·exact L (F x d)
   grind [R4,XZ]
  |cons s G=>
   have w:=N s (Zc ..);have A:(s::G).Sublist p:=by
    grind
   have C:=hp.sub A;have T:∀x∈G,Wz o x.2 s.2:=(Zu.1 C.pw).1;have U:=C.q8 s (Zc ..);have I:∀x∈G,Wz o x.2 (Xg t.2 m):=fun x d=>(T x d).le (C.q8 x (Za _ d)) U i w
   by_cases P:s.2=Xg t.2 m
   ·simp only[P,if_true];obtain⟨E,n,F,k4⟩:=key (s::G) G rfl (List.sublist_cons_self ..) I;by_cases h0:s.1+c*t.1=0
    ·rw[if_pos h0];refine⟨r _ E fun x d=>.inr (n x d),K _ fun x d=>L (F x d),fun f=> ?_⟩;rw[R4,D]
     grind [XZ]
    ·rw[if_neg h0];refine⟨r _ (E.cons h0 i n) fun x d=> ?_,K _ fun x d=> ?_,fun f=> ?_⟩
     ·rcases Zk.1 d with rfl|d
      ·exact .inl rfl
      ·exact .inr (n x d)
     ·rcases Zk.1 d with rfl|d
      ·exact g _
      ·exact L (F x d)
     grind [R4,XZ]
   ·simp only[P,if_false];have a1:Wz o s.2 (Xg t.2 m):=w.resolve_left P;obtain⟨E,n,F,k4⟩:=key (s::G) (s::G) rfl (List.Sublist.refl _) (fun x d=>by
     grind)
    refine⟨r _ (E.cons H i n) fun x d=> ?_,K _ fun x d=> ?_,fun f=> ?_⟩
    ·rcases Zk.1 d with rfl|d
     ·exact .inl rfl
     ·exact .inr (n x d)
    ·rcases Zk.1 d with rfl|d
     ·exact g _
     ·exact L (F x d)
    grind [R4,XZ]
def Wu:P'->P'->Nat
 |w::ws,e::es=>w*e+Wu ws es
 |_,_=>0
theorem Wr:∀w {m n},m.length=n.length->Wu w (Xg m n)=Wu w m+Wu w n
 |[],m,n,_=>by simp[Wu]
 |a::w,[],[],_=>by simp[Wu,Xg]
 |a::w,[],_::_,h=>by simp at h
 |a::w,_::_,[],h=>by simp at h
 |a::w,x::m,y::n,h=>by
  have b:=Wr w (m:=m) (n:=n) (by simpa using h)
  grind [Xg,Zz,Wu]
theorem Ct:∀{w m},w.length=m.length->(∀a∈w,0<a)->∀e∈m,e<=Wu w m
 |[],[],_,_,e,he=>by cases he
 |[],_::_,h,_,_,_=>by simp at h
 |a::w,x::m,h,hw,e,he=>by
  have c:=hw a (Zc ..);simp only[Wu];rcases Zk.1 he with rfl|he
  ·have:=Yz e c;omega
  ·have:=Ct (w:=w) (m:=m) (by simpa using h) (fun b d=>hw b (Za _ d)) e he;omega
def allM:P'->Nat->J'
 |[],_=>[[]]
 |a::w,W=>(List.range (W / a+1)).flatMap fun e=>(allM w (W-a*e)).map (e:: ·)
theorem To:∀{w m} {W},w.length=m.length->(∀a∈w,0<a)->Wu w m<=W->m∈allM w W
 |[],[],_,_,_,_=>Zc ..
 |[],_::_,_,h,_,_=>by simp at h
 |a::w,[],_,h,_,_=>by simp at h
 |a::w,x::m,W,h,hw,hle=>by
  have c:=hw a (Zc ..);simp only[Wu]at hle;unfold allM;refine YB.2 ⟨x,List.mem_range.2 ?_,ZM.2 ⟨m,To (by simpa using h) (fun b d=>hw b (Za _ d)) (by omega),rfl⟩⟩;have :x<=W / a:=(Nat.le_div_iff_mul_le c).2 (by rw[ZT];omega);omega
theorem NH:∀{w m} {W},m∈allM w W->(∀a∈w,0<a)->m.length=w.length/\Wu w m<=W
 |[],m,_,h,_=>by
  simp only[allM,Zk,ZQ,or_false]at h;subst h;exact⟨rfl,Zw _⟩
 |a::w,m,W,h,hw=>by
  have j:=hw a (Zc ..);unfold allM at h;obtain⟨e,k,f⟩:=YB.1 h;obtain⟨l,c,rfl⟩:=ZM.1 f;obtain⟨g,i⟩:=NH c fun b d=>hw b (Za _ d)
  grind [Nat.le_div_iff_mul_le,Wu]
def wC:P'->Nat->Nat
 |[],_=>1
 |a::w,W=>(W / a+1)*wC w W
theorem eF:∀w {V W},V<=W->wC w V<=wC w W
 |[],_,_,_=>Zf _
 |a::w,V,W,h=>ZA (by simp_all [Nat.div_le_div_right]) (eF w h)
theorem uG {a d:Type}(f:a->List d)(c:Nat):∀(l:List a),(∀x∈l,(f x).length<=c)->(l.flatMap f).length<=l.length*c
 |[],_=>by simp
 |x::l,h=>by
  have e:=uG f c l fun y b=>h y (Za _ b)
  grind [Nat.succ_mul]
theorem vd:∀(w:P') (W:Nat),(allM w W).length<=wC w W
 |[],_=>Zf _
 |a::w,W=>by
  unfold allM wC;refine Zy (uG _ (wC w W) _ fun e _=> ?_) (by grind);rw[ZP];exact Zy (vd w _) (eF w (Nat.sub_le ..))
def mH (o:M')(m:P'):J'->J'
 |[]=>[m]
 |n::l=>if WY o m n=.ofNat 1 then m::n::l else if m=n then n::l else n::mH o m l
def TQ (o:M'):J'->J'
 |[]=>[]
 |m::l=>mH o m (TQ o l)
variable {o:M'}
theorem jR {m x}:∀{l},x∈mH o m l↔x=m\/x∈l
 |[]=>by simp[mH]
 |n::l=>by
  unfold mH;split
  ·simp
  ·split
   ·grind
   ·simp only[Zk,jR (l:=l)]
    grind
theorem WU {x}:∀{l},x∈TQ o l↔x∈l
 |[]=>by simp[TQ]
 |m::l=>by simp only[TQ,jR,WU (l:=l),Zk]
theorem uk (m):∀l,(mH o m l).length<=l.length+1
 |[]=>by simp[mH]
 |n::l=>by
  have a:=uk m l
  grind [mH]
theorem Pn:∀l,(TQ o l).length<=l.length
 |[]=>by simp[TQ]
 |m::l=>by
  have:=uk (o:=o) m (TQ o l);have:=Pn l
  grind [TQ]
abbrev FY (o:M')(l:J'):Prop:=l.Pairwise fun a b=>Wz o b a
theorem ze {m}(d:L8 m):∀{l},FY o l->(∀n∈l,L8 n)->FY o (mH o m l)
 |[],_,_=>List.pairwise_singleton ..
 |n::l,h,h8=>by
  have f:=h8 n (Zc ..);have e:∀x∈l,L8 x:=fun x a=>h8 x (Za _ a)
  obtain⟨g,i⟩:=Zu.1 h;unfold mH;by_cases b:WY o m n=.ofNat 1
  ·rw[if_pos b];refine Zu.2 ⟨fun x a=> ?_,h⟩;rcases Zk.1 a with rfl|a
   ·exact b
   ·exact(g x a).trans (e x a) f d b
  ·rw[if_neg b];by_cases c:m=n
   ·rw[if_pos c];exact h
   ·rw[if_neg c];refine Zu.2 ⟨fun x a=> ?_,ze d i e⟩;rcases jR.1 a with rfl|a
    ·rcases Wz.K6 o d f with h|h|h
     ·exact h
     ·exact absurd h c
     ·exact absurd h b
    ·exact g x a
theorem bP:∀{l},(∀n∈l,L8 n)->FY o (TQ o l)
 |[],_=>.nil
 |m::l,h=>ze (h m (Zc ..)) (bP fun x b=>h x (Za _ b)) fun n a=>h n (Za _ (WU.1 a))
theorem PO.eI:∀{l} {p},FY o l->(∀n∈l,L8 n)->PO o p->(∀t∈p,t.2∈l)->p.length<=l.length
 |[],[],_,_,_,_=>Zf _
 |[],t::p,_,_,_,h=>by grind
 |δ::l,[],_,_,_,_=>Zw _
 |δ::l,t::p,hl,h8,hp,h=>by
  obtain⟨f,g⟩:=Zu.1 hl;have a:∀n∈l,L8 n:=fun n d=>h8 n (Za _ d)
  have :∀u∈p,u.2∈l:=fun u c=>by
   have b:=(Zu.1 hp.pw).1 u c;rcases Zk.1 (h u (Za _ c))with e|e
   ·rcases Zk.1 (h t (Zc ..))with e2|e2
    ·grind [Wz.vD]
    ·rw[e]at b;exact absurd b ((f _ e2).asymm (a _ e2) (h8 δ (Zc ..)))
   ·exact e
  have:=PO.eI g a hp.tail this
  grind
def Cf (C:Nat)(ts:I'):Prop:=∃D:Nat,0<D/\D<=C/\∀t∈ts,∃z:Int,t.1*(D:Rat)=(z:Rat)/\z.natAbs<=C
theorem Cf.sub {C}{a b}(h:Cf C a)(f:∀t∈b,t∈a):Cf C b:=by
 obtain⟨D,c,d,e⟩:=h;exact⟨D,c,d,fun t g=>e t (f t g)⟩
theorem GX (x):(x.num:Rat)=x*(x.den:Rat):=by
 have h:(x.den:Rat)≠0:=by
  intro h;exact x.den_nz (by exact_mod_cast h)
 grind [Rat.mkRat_self,Rat.mkRat_eq_div]
theorem Dw {x:Rat}{D:Nat}(a:0<D){z:Int}(h:x*(D:Rat)=(z:Rat)):x.num.natAbs<=z.natAbs/\x.den<=D:=by
 have g:(x.num:Rat)*D=z*x.den:=by
  grind [GX]
 have d:x.num*(D:Int)=z*(x.den:Int):=by
  have :((x.num*(D:Int):Int):Rat)=((z*(x.den:Int):Int):Rat):=by
   rw[Rat.intCast_mul,Rat.intCast_mul];exact g
  exact Rat.intCast_inj.1 this
 have f:x.num.natAbs*D=z.natAbs*x.den:=by
  have:=congrArg Int.natAbs d
  grind [Yp]
 have b:x.den ∣ D:=by
  have :x.den ∣ x.num.natAbs*D:=⟨z.natAbs,by rw[f,ZT]⟩;exact Nat.Coprime.dvd_of_dvd_mul_left (Nat.Coprime.symm x.reduced) this
 obtain⟨e,rfl⟩:=b;refine⟨?_,Nat.le_of_dvd a ⟨e,rfl⟩⟩;have c:0<e:=by
  grind
 have :x.num.natAbs*e=z.natAbs:=by
  apply Nat.eq_of_mul_eq_mul_right x.den_pos
  grind
 rw[<-this];exact Z1 _ c
