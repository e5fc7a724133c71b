/- Which orders are valid: both functions answer the same, for every order. -/
import Derived.Test.YtidginchkjhobaaGreatVec
import Derived.Test.YtidginchkjhobaaGreatGrD
import Derived.Test.YtidginchkjhobaaGreatGof
import Derived.Shelf.Lay
import Derived.Ground.SlsfProg
import Derived.Test.YtidginchkjhobaaGreatTabOk
import Derived.Test.YtidginchkjhobaaGreatEvSort
set_option maxHeartbeats 16000000
set_option maxRecDepth 100000
namespace Go.Ev
open Go.Proofs.YtidginchkjhobaaGreat Go.Proofs
variable {o:M'}
def bN (o:M'):List (Option P')->Nat->Int×Int×P'->Int×Int×P'
 |[],_,st=>st
 |none::r,k,st=>bN o r (k+1) st
 |some m::r,k,st=>bN o r (k+1) (Oj o st.1 st.2.1 st.2.2 k m)
def Kl (o:M')(ps:List (Option P'))(k:Nat)(st:Int×Int×P'):Prop:=
 (st.1=.negSucc 0/\st.2.1=.negSucc 0/\∀h,h<k->ps[h]? =some none)\/
 ∃a,a<k/\st.1=.ofNat a/\ps[a]? =some (some st.2.2)/\L8 st.2.2/\(∀h m,h<a->ps[h]? =some (some m)->Wz o m st.2.2)/\(∀h m,h<k->ps[h]? =some (some m)->bG o m st.2.2)/\
  ((st.2.1=.negSucc 0/\∀h m,h<k->h≠a->ps[h]? =some (some m)->Wz o m st.2.2)\/∃b,st.2.1=.ofNat b/\a<b/\b<k/\ps[b]? =some (some st.2.2))
theorem gU {m}:bG o m m:=by
 exact .inl rfl
theorem dU {ps:List (Option P')}(z:∀m,some m∈ps->L8 m):∀(r:List (Option P')) (k:Nat) (p:Int×Int×P'),ps.drop k=r->Kl o ps k p->Kl o ps ps.length (bN o r k p)
 |[],k,p,hd,hi=>by
  have F:ps.length<=k:=List.drop_eq_nil_iff.1 hd;unfold bN;rcases hi with⟨u,q,n⟩|⟨a,u,q,n,s,w,t,j⟩
  ·exact .inl ⟨u,q,fun h l=>n h (by omega)⟩
  ·have B:=(Zg.1 n).1;refine .inr ⟨a,B,q,n,s,w,fun h m l=>t h m (by omega),?_⟩;rcases j with j|⟨b,b1,b2,b3,b4⟩
   ·exact .inl ⟨j.1,fun h m l=>j.2 h m (by omega)⟩
   ·exact .inr ⟨b,b1,b2,(Zg.1 b4).1,b4⟩
 |none::r,k,p,hd,hi=>by
  obtain⟨g,d⟩:=Xh hd;unfold bN;refine dU z r (k+1) p d ?_;rcases hi with⟨u,q,n⟩|⟨a,u,q,n,s,w,t,j⟩
  ·exact .inl ⟨u,q,fun h l=>by
    rcases Z8 h k with e|e
    ·exact n h e
    ·obtain rfl:h=k:=by omega
     exact g⟩
  ·refine .inr ⟨a,by omega,q,n,s,w,fun h m l f=> ?_,?_⟩
   ·rcases Z8 h k with e|e
    ·exact t h m e f
    ·obtain rfl:h=k:=by omega
     rw[g]at f;cases f
   ·rcases j with j|⟨b,b1,b2,b3,b4⟩
    ·exact .inl ⟨j.1,fun h m l x f=>by
      rcases Z8 h k with e|e
      ·exact j.2 h m e x f
      ·obtain rfl:h=k:=by omega
       rw[g]at f;cases f⟩
    ·exact .inr ⟨b,b1,b2,by omega,b4⟩
 |some m::r,k,p,hd,hi=>by
  obtain⟨g,d⟩:=Xh hd;have v:=z m (Zh g);unfold bN;refine dU z r (k+1) _ d ?_;unfold Oj;rcases hi with⟨u,q,n⟩|⟨a,u,q,n,s,w,t,j⟩
  ·rw[if_pos u];refine .inr ⟨k,by omega,rfl,g,v,fun h i l f=> ?_,fun h i l f=> ?_,.inl ⟨rfl,fun h i l x f=>by
    have e:=n h (by omega);rw[e]at f;cases f⟩⟩
   ·rw[n h l]at f;cases f
   ·rcases Z8 h k with e|e
    ·rw[n h e]at f;cases f
    ·obtain rfl:h=k:=by omega
     rw[g]at f;cases f;exact gU
  ·have D:¬p.1=.negSucc 0:=by rw[q];intro e;cases e
   rw[if_neg D];have E:∀h i,ps[h]? =some (some i)->L8 i:=fun h i e=>z i (Zh e)
   rcases Wz.K6 o v s with e|e|e
   ·
    have A:¬WY o m p.2.2=.ofNat 1:=fun c=>(e.asymm v s c).elim
    have y:¬WY o m p.2.2=.ofNat 0:=fun c=>Wz.vD (o:=o) (m:=p.2.2) (by
     have:=aw (v.trans s.symm) c
     rwa[this]at e)
    rw[if_neg A,if_neg y];refine .inr ⟨a,by omega,q,n,s,w,fun h i l f=> ?_,?_⟩
    ·rcases Z8 h k with e'|e'
     ·exact t h i e' f
     ·obtain rfl:h=k:=by omega
      rw[g]at f;cases f;exact .inr e
    ·rcases j with j|⟨b,b1,b2,b3,b4⟩
     ·exact .inl ⟨j.1,fun h i l x f=>by
       rcases Z8 h k with e'|e'
       ·exact j.2 h i e' x f
       ·obtain rfl:h=k:=by omega
        rw[g]at f;cases f;exact e⟩
     ·exact .inr ⟨b,b1,b2,by omega,b4⟩
   ·
    subst e;have y:WY o p.2.2 p.2.2=.ofNat 0:=PN _ _;rw[if_neg (by rw[y];intro h;cases h),if_pos y];by_cases C:p.2.1=.negSucc 0
    ·rw[if_pos C];refine .inr ⟨a,by omega,q,n,s,w,fun h i l f=> ?_,.inr ⟨k,rfl,u,by omega,g⟩⟩;rcases Z8 h k with e'|e'
     ·exact t h i e' f
     ·obtain rfl:h=k:=by omega
      rw[g]at f;cases f;exact gU
    ·rw[if_neg C];refine .inr ⟨a,by omega,q,n,s,w,fun h i l f=> ?_,?_⟩
     ·rcases Z8 h k with e'|e'
      ·exact t h i e' f
      ·obtain rfl:h=k:=by omega
       rw[g]at f;cases f;exact gU
     ·rcases j with j|⟨b,b1,b2,b3,b4⟩
      ·exact absurd j.1 C
      ·exact .inr ⟨b,b1,b2,by omega,b4⟩
   ·
    have A:WY o m p.2.2=.ofNat 1:=e;rw[if_pos A];refine .inr ⟨k,by omega,rfl,g,v,fun h i l f=> ?_,fun h i l f=> ?_,.inl ⟨rfl,fun h i l x f=>bG.lt (E h i f) s v (t h i (by omega) f) e⟩⟩
    ·exact bG.lt (E h i f) s v (t h i l f) e
    ·rcases Z8 h k with e'|e'
     ·exact .inr (bG.lt (E h i f) s v (t h i e' f) e)
     ·obtain rfl:h=k:=by omega
      rw[g]at f;cases f;exact gU
theorem W8.mono {D c b}{a}(h:W8 D c a)(k:c<=b):W8 D b a:=fun t d=>(h t d).mono k
theorem Fr.scale {D c E}{x}(h:Fr D c x):Fr (D*E) (c*E) x:=by
 obtain⟨z,e,a⟩:=h;refine⟨z*E,?_,?_⟩
 ·grind [YF]
 simp_all [Yp,Zm]
theorem W8.X8 {D a b}{c d}(g:Q8 c)(i:Q8 d)(h:W8 D a c)(k:W8 D b d):W8 D (a+b) (X8 c d):=fun x f=>by
 rcases Qg _ (Zf _) g i f with h1|h1|⟨t,ht,u,hu,-,-,e⟩
 ·exact(h x h1).mono (by omega)
 ·exact(k x h1).mono (by omega)
 ·rw[e];exact(h t ht).add (k u hu)
theorem Fr.neg {D c}{x}(h:Fr D c x):Fr D c (-x):=by
 obtain⟨z,e,a⟩:=h;exact⟨-z,by grind,by omega⟩
theorem RF {a}{x}(h:x∈WE a):∃t∈a,x.2=t.2/\x.1= -t.1:=by
 unfold WE X2 at h
 grind
theorem W8.WE {D c}{a}(h:W8 D c a):W8 D c (WE a):=fun x d=>by
 obtain⟨t,b,-,e⟩:=RF d;rw[e];exact(h t b).neg
theorem WZ {c}{m}{a}{x}(h:x∈XD c m a):∃t∈a,x.2=Xg m t.2/\x.1=c*t.1:=by grind [XD]
theorem O7 {w}(a:w.length=8)(c:∀x∈w,0<x){V}{Q}(e:Pl Q)(h:∀u∈Q,QJ w V u.2):Q.length<=(allM w V).length:=by
 have d:=jW (o:=([]:M')) a c V;have g:=PO.eI d.dc (fun n f=>(d.wY n f).1) (Th (o:=[]) e.Sk) fun t b=>WU.2 (To (a.trans (h t ((W0 [] Q).mem_iff.1 b)).1.symm) c (h t ((W0 [] Q).mem_iff.1 b)).2)
 grind [Sh,Pn]
theorem dF {B}(l:Std B):∀{i e} {b a},VV i b->VV e a->b.length=a.length->(∀f∈b,Sz f/\f.length<400000)->(∀f∈a,Sz f/\f.length<400000)->∃d,(XT B fun E _=>vB E i e d)/\VV d (List.zipWith X8 b a)
 |[],e,[],a,.nil,h,he,_,_=>by
  cases h with
  |nil=>exact⟨[],XT.of fun _ _=>.nil,.nil⟩
  |cons _ _=>simp at he
 |c::i,xs',f::b,gs',.cons hc hcs,h,he,h1,h2=>by
  cases h with
  |nil=>simp at he
  |@cons x g e a s k=>
   obtain⟨d,t,u⟩:=dF l hcs k (by simpa using he) (fun f j=>h1 f (Za _ j)) fun f j=>h2 f (Za _ j)
   obtain⟨n,o⟩:=h1 f (Zc ..);obtain⟨p,q⟩:=h2 g (Zc ..);obtain⟨m,v,w⟩:=eC l hc s n p o q;exact⟨.Xl m::d,(t.and v.Xk).mono fun E K ⟨r,e1⟩=>.cons e1 r,.cons ⟨m,.Xl,w⟩ u⟩
theorem nN {B}(d:Std B):∀{c} {a},VV c a->(∀f∈a,Sz f/\f.length<400000)->∃b,(XT B fun E _=>XE (fun p x=>E.pure 67 [.one .Xp,.one p]=some (.one x)) c b)/\VV b (a.map WE)
 |[],[],.nil,_=>⟨[],XT.of fun _ _=>.nil,.nil⟩
 |p::c,f::a,.cons hp h,h1=>by
  obtain⟨b,m,n⟩:=nN d h fun f l=>h1 f (Za _ l)
  obtain⟨i,j⟩:=h1 f (Zc ..);obtain⟨e,o,g⟩:=ez d (lp:=.Xp) (ts:=[]) ⟨[],.nil,.nil⟩ hp Sz.nil i (by simp) j;rw[X5]at g;exact⟨.Xl e::b,(m.and o.Xk).mono fun E K ⟨k,e1⟩=>.cons e1 k,.cons ⟨e,.Xl,g⟩ n⟩
theorem Ol (t)(g):Wy [] [t] g=XD t.1 t.2 g:=by grind [Wy,X5]
theorem mY {B}(i:q7 B){D g a b C k}(l:xR D g a b C k){F}{t}(j:PQ F [t])(y:Fr D a t.1)(H:t.1≠0):∀{e} {c},VV e c->(∀f∈c,W8 g b f/\Ph f/\(∀u∈f,XA (Xg t.2 u.2))/\f.length<1000/\f.length*(a*b)<=C)->∃d,(XT B fun E _=>XE (H8 E F) e d)/\VV d (c.map (XD t.1 t.2))
 |[],[],.nil,_=>⟨[],XT.of fun _ _=>.nil,.nil⟩
 |p::e,f::c,.cons hp h,h1=>by
  obtain⟨d,z,A⟩:=mY i l j y H h fun f w=>h1 f (Za _ w)
  obtain⟨q,r,I,s,J⟩:=h1 f (Zc ..);obtain⟨n,G,o⟩:=nG i l j hp (fun x m=>by grind) q (fun x m=>by grind) r (fun x m=>by grind) (by grind [ZK]) (by grind) (by simp) s;rw[Ol]at o;exact⟨.Xl n::d,(z.and G.Xk).mono fun E K ⟨v,e1⟩=>.cons e1 v,.cons ⟨n,.Xl,o⟩ A⟩
theorem OX (n):VV (List.replicate n .Xp) (List.replicate n []):=by
 induction n with
 |zero=>exact .nil
 |succ n a=>exact .cons ⟨[],.nil,.nil⟩ a
variable {o:M'}{w:P'}
theorem gK {c:Type}{f:c->c->c}{l m:List c}{h:Nat}{x:c}(e:(List.zipWith f l m)[h]? =some x):∃a b,l[h]? =some a/\m[h]? =some b/\x=f a b:=by grind
theorem rW {n i h}{x}{A}(e:((List.replicate n ([]:I')).set i [x])[h]? =some A):(h=i/\A=[x])\/(h≠i/\A=[]):=by grind
theorem ly {a b}(c:Q8 a)(d:Q8 b)(m):TD (X8 a b) m=TD a m+TD b m:=by
 rw[Wm,Wm,Wm,VG _ _ _ _ (Zf _) c d]
theorem Fs (a)(m):TD (WE a) m= -TD a m:=by grind [Wm,T4]
def jg (n i j:Nat)(s t:Qm)(Qs:S'):S':=
 List.zipWith X8 (List.zipWith X8 ((List.replicate n []).set i [(s.1⁻¹,XO (XM s.2 t.2) s.2)]) ((List.replicate n []).set j [(-t.1⁻¹,XO (XM s.2 t.2) t.2)])) (Qs.map WE)
variable {o:M'}{w:P'}
theorem Od {B}(j:Std B){p h}(q:SA h o)(l:Vq o)(e:o.length<1000000){f}(m:PQ p f)(k:f.length<100000){s}(g:XB o f=some s):
  ∃n a d b,Xv B 61 [.one p,.one h] (.Wd [.agg (.bool n::a::.bool d::b::mo s.2),.one (.bool true)])/\Rw [.bool n,a,.bool d,b] s.1/\XA s.2:=by
 cases f with
 |nil=>cases g
 |cons t w=>
  simp only[Zj]at k;obtain⟨c,r,i⟩:=AT j q l e m (by omega);obtain⟨n,a,d,b,rfl,u,v⟩:=i;cases g
  grind
theorem iR {o}{f}(b:Pl f){s}(d:XB o f=some s):∃a,(s::a).Perm f/\PO o (s::a):=by
 have g:=W0 o f;have c:=Th (o:=o) b.Sk;cases e:VI o f with
 |nil=>
  have:=Sh o f;rw[e]at this;have:=YC this.symm;subst this;cases d
 |cons t h=>
  have:=PA b e
  grind
theorem tZ {o}{f g}(l:Pl f)(j:Pl g){s t}(V:XB o f=some s)(W:XB o g=some t):∃u,XB o (Wy [] f g)=some u/\u.2=Xg s.2 t.2:=by
 obtain⟨z,O,of⟩:=iR l V;obtain⟨E,Q,A⟩:=iR j W;have x:=of.q8 s (Zc ..);have B:=A.q8 t (Zc ..);have X:=of.nz s (Zc ..);have Y:=A.nz t (Zc ..);have N:L8 (Xg s.2 t.2):=Wo x B;have G:Pl (Wy [] f g):=⟨ik l.q8 j.q8 (fun _ h=>by cases h) l.dc.nz j.dc .nil,pK l.q8 j.q8 (fun _ h=>by cases h)⟩;have p:∀D,XZ (Wy [] f g) D=XZ f fun m=>XZ g fun k=>D (Xg m k):=fun D=>by
  rw[cr D l.q8 j.q8 (fun _ h=>by cases h)];simp only[XZ];grind
 have r:∀u∈z,Wz o u.2 s.2:=fun u d=>(Zu.1 of.pw).1 u d
 have i:∀v∈E,Wz o v.2 t.2:=fun v c=>(Zu.1 A.pw).1 v c
 have q:∀v∈g,v=t\/Wz o v.2 t.2:=fun v c=>(Zk.1 (Q.mem_iff.2 c)).imp_right (i v)
 have L:∀u∈f,u=s\/Wz o u.2 s.2:=fun u d=>(Zk.1 (O.mem_iff.2 d)).imp_right (r u)
 have w:∀u∈z,∀v∈g,Wz o (Xg u.2 v.2) (Xg s.2 t.2):=fun u d v c=>by
  have y:=of.q8 u (Za _ d);have C:=j.q8 v c;have F:Wz o (Xg v.2 u.2) (Xg v.2 s.2):=(r u d).add C y x;rw[XL v.2 u.2,XL v.2 s.2]at F;rcases q v c with rfl|h
  ·exact F
  ·exact F.trans (Wo y C) (Wo x C) N (h.add x C B)
 have M:∀v∈E,Wz o (Xg s.2 v.2) (Xg s.2 t.2):=fun v c=>(i v c).add x (A.q8 v (Za _ c)) B
 have T:TD (Wy [] f g) (Xg s.2 t.2)=s.1*t.1:=by
  rw[Wm,p,<-Pv O];simp only[XZ];have z1:XZ z (fun m=>XZ g fun k=>WJ (Xg s.2 t.2) (Xg m k))=0:=by
   rw[Uy (ψ:=fun _=>0) fun u d=>SK fun v c=>by
    unfold WJ;rw[if_neg (w u d v c).ne]]
   exact SJ _
  have z2:XZ g (fun k=>WJ (Xg s.2 t.2) (Xg s.2 k))=t.1:=by
   rw[<-Pv Q];simp only[XZ];have z3:XZ E (fun k=>WJ (Xg s.2 t.2) (Xg s.2 k))=0:=SK fun v c=>by
    unfold WJ;rw[if_neg (M v c).ne]
   grind [WJ]
  rw[z1,z2];grind
 have K:s.1*t.1≠0:=fun h=>(Rat.mul_eq_zero.1 h).elim X Y
 have n:=G.Sk.mem (m:=Xg s.2 t.2) (by rw[T];exact K);cases U:XB o (Wy [] f g)with
 |none=>
  grind [Vy]
 |some u=>
  refine⟨u,rfl,?_⟩;obtain⟨Z,y,u0,u4⟩:=Xy G U;rcases u4 _ n with e|e
  ·grind
  ·
   exfalso;have P:Wz o (Xg s.2 t.2) u.2:=e;have hz:TD (Wy [] f g) u.2=0:=by
    rw[Wm,p];rw[Uy (ψ:=fun _=>0) fun a H=>SK fun b J=>by
     unfold WJ;rw[if_neg];intro h;have R:=l.q8 a H;have S:=j.q8 b J;rcases L a H with rfl|hlt
     ·rcases q b J with rfl|hlt2
      ·grind [Wz.vD]
      ·have:=hlt2.add R S B;rw[h]at this;exact absurd P (this.asymm y N)
     ·have I:a∈z:=(Zk.1 (O.mem_iff.2 H)).resolve_left fun e=>by grind [Wz.vD]
      have:=w a I b J;rw[h]at this;exact absurd P (this.asymm y N)]
    exact SJ _
   have:=G.Sk.U4 u Z
   grind
inductive KJ (E:Xa):PL->N'->N'->PL->Prop
 |nil (r:PL):KJ E r [] [] r
 |cons {r q l x r' rf:PL} {qs ls:N'} (h1:E.pure 78 [.one q,.one l]=some (.Wd [.one x,.one (.int .i64 (.ofNat 0))])) (h2:E.pure 68 [.one r,.one x]=some (.one r')) (h:KJ E r' qs ls rf):KJ E r (q::qs) (l::ls) rf
abbrev Ml (Q L r:PL)(n i:Nat):List (Nat×DV):=[(0,.one (.p Q)),(1,.one (.p L)),(6,.one (.p r)),(16,.one (.p (.int .i64 (.ofNat n)))),(17,.one (.p (.int .i64 (.ofNat i))))]
theorem DF {E}{K k i}(d:E.mode=md){Q L q l x r j}{g a}(v:Sl Q (Xf g))(u:Sl L (Xf a))(p:g[i]? =some q)(f:a[i]? =some l)(w:a.length<1000000)
  (n:E.pure 78 [.one q,.one l]=some (.Wd [.one x,.one (.int .i64 (.ofNat 0))])) (o:E.pure 68 [.one r,.one x]=some (.one j)) (H):
  Xb E K 0 [0,1,6,16,17] x39_1 (k+1) ⟨Ml Q L r a.length i,H⟩=Xb E K 0 [0,1,6,16,17] x39_1 k ⟨Ml Q L j a.length (i+1),H⟩:=by
 have c:i<a.length:=(Zg.mp f).1;have s:=fun(b:HF) (e:IntKind)=>v.idx (h:=b) (k:=e) (sz:=1) (XK p) rfl
 have t:=fun(b:HF) (e:IntKind)=>u.idx (h:=b) (k:=e) (sz:=1) (XK f) rfl
 have m:Xd .i64 (.ofNat (i+1))=.ofNat (i+1):=wrap_i64 (by omega);rw[Xb];simp+decide only[Xo,Xs,VD,Vv,reduceIte,Nat.reduceEqDiff,Nat.reduceAdd,x39_1,d,X3,c,s,t,n,o,m]
theorem Lt {E}{K}(d:E.mode=md){Q L}{g a}(A:Sl Q (Xf g))(z:Sl L (Xf a))(w:a.length<1000000){r m}{l c}(h:KJ E r l c m):∀i k H,g.drop i=l->a.drop i=c->i+c.length=a.length->c.length<k->
  ∃f,Xb E K 0 [0,1,6,16,17] x39_1 k ⟨Ml Q L r a.length i,H⟩=some (.exit 0,⟨f,H⟩)/\Xi f 6=some (.one (.p m)):=by
 induction h with
 |nil r=>
  intro i k H _ _ b j;rcases k with _|k;omega;simp only[Zr,ZU]at b;subst b;apply VW
  ·rw[Xb];simp only[Xo,Xs,reduceIte,Nat.reduceEqDiff,x39_1,Zx];rfl
  ·simp only[Xo,reduceIte,Nat.reduceEqDiff]
 |cons t u h y=>
  intro i k H x v b j;rcases k with _|k;omega;simp only[Zj]at b j;obtain⟨q,n⟩:=Xh x;obtain⟨s,o⟩:=Xh v;rw[DF d A z q s w t u H];exact y (i+1) k H n o (by omega) (by omega)
theorem wj {B}(e:Std B){Q L i}{c a}(k:Sl Q (Xf c))(j:Sl L (Xf a))(n:c.length=a.length)(q:a.length<100000)(h:XT B fun E _=>KJ E .Xp c a i):Xv B 39 [.one Q,.one L] (.Wd [.one i,.one (.int .i64 (.ofNat 0))]):=by
 refine Xv.of (e.Wa _ _ rfl) ((h.and (e.Xk.and (XT.ge (a.length+1)))).mono fun E K ⟨l,b,p⟩=> ?_);obtain⟨o,d,m⟩:=Lt (K:=K) b k j (by omega) l 0 K [] rfl rfl (by omega) (by omega);have f:=k.len;have g:=j.len;rw[Xt,n]at f;rw[Xt]at g;simp only[Ml]at d;simp+decide only[Xo,Xs,reduceIte,Nat.reduceAdd,x39,f,g,d,m]
variable {o:M'}{w:P'}
variable {o:M'}{w:P'}
def Pr (o:M')(fs vs:S')(h:Nat)(m:P'):Prop:=∃Q f r u,vs[h]? =some Q/\fs[h]? =some f/\XB o f=some r/\u∈Q/\m=Xg u.2 r.2
theorem eA {c}{m}(h0:c≠0)(b:L8 m){f}(a:Pl f):Pl (XD c m f):=Ve h0 b a
variable {o:M'}{w:P'}
def Us (o:M')(v f:I'):Option P':=match XB o v,XB o f with
 |some t,some s=>some (Xg t.2 s.2)
 |_,_=>none
theorem A4 (i j)(c)(k)(m)(d:i=.negSucc 0\/∃a,i=.ofNat a)(e:j=.negSucc 0\/∃b,j=.ofNat b):
  ((Oj o i j c k m).1=.negSucc 0\/∃a,(Oj o i j c k m).1=.ofNat a)/\((Oj o i j c k m).2.1=.negSucc 0\/∃b,(Oj o i j c k m).2.1=.ofNat b)/\((Oj o i j c k m).2.2=m\/(Oj o i j c k m).2.2=c/\i≠.negSucc 0):=by
 unfold Oj;split
 ·exact⟨.inr ⟨k,rfl⟩,.inl rfl,.inl rfl⟩
 ·rename_i h;split
  ·exact⟨.inr ⟨k,rfl⟩,.inl rfl,.inl rfl⟩
  ·split
   ·split
    ·exact⟨d,.inr ⟨k,rfl⟩,.inr ⟨rfl,h⟩⟩
    ·exact⟨d,e,.inr ⟨rfl,h⟩⟩
   ·exact⟨d,e,.inr ⟨rfl,h⟩⟩
theorem wq {B}(b:Std B){c e}(f:Sl c []):Xv B 61 [.one c,.one e] (.Wd [.agg (.bool false::.Xp::.bool false::.Xp::mo Ut),.one (.bool false)]):=by
 have d:=f.len;refine Xv.of (b.Wa _ _ rfl) (b.Xk.mono fun E K a=> ?_);simp+decide only[Xo,Xs,reduceIte,Nat.reduceAdd,x61,d];rfl
theorem G0 {B}(a:Std B){p lo}{f}(c:PQ p f)(b:f=[]):Xv B 61 [.one p,.one lo] (.Wd [.agg (.bool false::.Xp::.bool false::.Xp::mo Ut),.one (.bool false)]):=by
 subst b;obtain⟨g,e,d⟩:=c;cases d;exact wq a e
theorem o9 {B}(C:Std B){lo}(P:SA lo o)(I:Vq o)(n:o.length<1000000):∀{Y S} {l g},VV Y l->VV S g->l.length=g.length->(∀v∈l,v.length<100000)->(∀f∈g,f≠[]/\f.length<100000)->(∀m,some m∈List.zipWith (Us o) l g->XA m)->
  ∀k i j c,(i=.negSucc 0\/∃a,i=.ofNat a)->(j=.negSucc 0\/∃b,j=.ofNat b)->(i≠.negSucc 0->XA c)->
  XT B fun E _=>aB E lo k i j c Y S (bN o (List.zipWith (Us o) l g) k (i,j,c)).1 (bN o (List.zipWith (Us o) l g) k (i,j,c)).2.1 (bN o (List.zipWith (Us o) l g) k (i,j,c)).2.2
 |[],_,[],g,.nil,hg,R,_,_,_,k,i,j,c,_,_,_=>by
  cases hg with
  |nil=>exact XT.of fun _ _=>.nil k i j c
  |cons _ _=>simp at R
 |p::Y,_,v::l,fs',.cons hp hv,hg,R,l1,l2,Z,k,i,j,c,hi,hj,ht=>by
  cases hg with
  |nil=>simp at R
  |@cons q f S g hq F=>
   have J:∀v∈l,v.length<100000:=fun x X=>l1 x (Za _ X)
   have L:∀f∈g,f≠[]/\f.length<100000:=fun x X=>l2 x (Za _ X)
   have D:l.length=g.length:=by simpa using R
   have G:∀m,some m∈List.zipWith (Us o) l g->XA m:=fun m h=>Z m (Za _ h)
   have W:=l1 v (Zc ..);obtain⟨U,T⟩:=l2 f (Zc ..);simp only[Zz];cases u:XB o v with
   |none=>
    have Q:Us o v f=none:=by unfold Us;rw[u]
    rw[Q];have d:=o9 C P I n hv F D J L G (k+1) i j c hi hj ht;have z:=G0 C (lo:=lo) hp (Vy u);exact(d.and z.Xk).mono fun E K ⟨e1,e2⟩=>.zero rfl e2 e1
   |some t=>
    cases A:XB o f with
    |none=>exact absurd (Vy A) U
    |some s=>
     have Q:Us o v f=some (Xg t.2 s.2):=by unfold Us;rw[u,A]
     have H:XA (Xg t.2 s.2):=Z _ (by rw[Zz,Q];exact Zc ..);rw[Q];obtain⟨n1,a1,d1,b1,N,-,mt⟩:=Od C P I n hp W u;obtain⟨n2,a2,d2,b2,O,-,M⟩:=Od C P I n hq T A;obtain⟨c1,c2,c3⟩:=A4 (o:=o) i j c k (Xg t.2 s.2) hi hj;have d:=o9 C P I n hv F D J L G (k+1) (Oj o i j c k (Xg t.2 s.2)).1 (Oj o i j c k (Xg t.2 s.2)).2.1 (Oj o i j c k (Xg t.2 s.2)).2.2 c1 c2 (fun _=>by
      rcases c3 with e|⟨e,h⟩
      ·rw[e];exact H
      ·rw[e];exact ht h)
     have e1:bN o (some (Xg t.2 s.2)::List.zipWith (Us o) l g) k (i,j,c)=bN o (List.zipWith (Us o) l g) (k+1) ((Oj o i j c k (Xg t.2 s.2)).1,(Oj o i j c k (Xg t.2 s.2)).2.1,(Oj o i j c k (Xg t.2 s.2)).2.2):=rfl;rw[e1];clear e1;generalize bN o (List.zipWith (Us o) l g) (k+1) ((Oj o i j c k (Xg t.2 s.2)).1,(Oj o i j c k (Xg t.2 s.2)).2.1,(Oj o i j c k (Xg t.2 s.2)).2.2)=fin at d;unfold Oj at d;rcases hi with rfl|⟨a,rfl⟩
     ·rw[if_pos rfl]at d;exact(d.and (N.Xk.and O.Xk)).mono fun E K ⟨e1,e2,r⟩=>.first mt M e2 r e1
     ·have V:=ht (fun h=>by cases h);rw[if_neg (fun h=>by cases h)]at d;have y:=N6 C P I H V n;rcases Sf o (Xg t.2 s.2) c with e|e|e
      ·rw[if_pos e]at d;rw[e]at y;exact(d.and (N.Xk.and (O.Xk.and y.Xk))).mono fun E K ⟨e1,e2,r,w⟩=>.gt mt M e2 r w e1
      ·rw[if_neg (by rw[e];intro h;cases h),if_neg (by rw[e];intro h;cases h)]at d;rw[e]at y;exact(d.and (N.Xk.and (O.Xk.and y.Xk))).mono fun E K ⟨e1,e2,r,w⟩=>.lt mt M e2 r w e1
      ·rw[if_neg (by rw[e];intro h;cases h),if_pos e]at d;rw[e]at y;rcases hj with rfl|⟨b,rfl⟩
       ·rw[if_pos rfl]at d;exact(d.and (N.Xk.and (O.Xk.and y.Xk))).mono fun E K ⟨e1,e2,r,w⟩=>.eq mt M e2 r w e1
       ·rw[if_neg (fun h=>by cases h)]at d;exact(d.and (N.Xk.and (O.Xk.and y.Xk))).mono fun E K ⟨e1,e2,r,w⟩=>.YX mt M e2 r w e1
abbrev LJ (v:Nat)(o:N'):Xx:=⟨true,v,1,pc (Xf o),false,33⟩
open Go.Shelf Go.Proofs
def Y9:Shelf.Ren where
 f:=fun x=>match x with
  |14=>186
  |20=>198
  |21=>199
  |22=>200
  |23=>201
  |24=>202
  |25=>203
  |26=>204
  |27=>205
  |46=>208
  |47=>209
  |48=>210
  |49=>211
  |50=>212
  |15=>187
  |57=>213
  |28=>206
  |29=>207
  |n=>n
 t:=fun x=>match x with
  |24=>75
  |22=>32
  |3=>3
  |25=>194
  |4=>4
  |0=>0
  |46=>215
  |45=>214
  |50=>219
  |66=>222
  |39=>172
  |55=>129
  |70=>226
  |76=>228
  |77=>229
  |53=>177
  |5=>5
  |9=>9
  |n=>n
 g:=fun x=>x
theorem CT:SlLaysF0.n14 Tryz.prog Y9 where
 mixed:=by kernel_rfl
 f14 := ⟨ "slices.pdqsortCmpFunc[eliminant/api.Term]", by decide, Tryz.func186⟩
 f15:=Tryz.func187
 f20 := ⟨ "slices.insertionSortCmpFunc[eliminant/api.Term]", by decide, Tryz.func198⟩
 f21 := ⟨ "slices.heapSortCmpFunc[eliminant/api.Term]", by decide, Tryz.func199⟩
 f22 := ⟨ "slices.breakPatternsCmpFunc[eliminant/api.Term]", by decide, Tryz.func200⟩
 f23 := ⟨ "slices.choosePivotCmpFunc[eliminant/api.Term]", by decide, Tryz.func201⟩
 f24 := ⟨ "slices.reverseRangeCmpFunc[eliminant/api.Term]", by decide, Tryz.func202⟩
 f25 := ⟨ "slices.partialInsertionSortCmpFunc[eliminant/api.Term]", by decide, Tryz.func203⟩
 f26 := ⟨ "slices.partitionEqualCmpFunc[eliminant/api.Term]", by decide, Tryz.func204⟩
 f27 := ⟨ "slices.partitionCmpFunc[eliminant/api.Term]", by decide, Tryz.func205⟩
 f28:=Tryz.func206
 f29:=Tryz.func207
 f46 := ⟨ "slices.siftDownCmpFunc[eliminant/api.Term]", by decide, Tryz.func208⟩
 f47:=Tryz.func209
 f48:=Tryz.func210
 f49 := ⟨ "slices.medianAdjacentCmpFunc[eliminant/api.Term]", by decide, Tryz.func211⟩
 f50 := ⟨ "slices.medianCmpFunc[eliminant/api.Term]", by decide, Tryz.func212⟩
 f57 := ⟨ "slices.order2CmpFunc[eliminant/api.Term]", by decide, Tryz.func213⟩
 t0:=Tryz.underlying0
 a0:=Tryz.isAgg0
 z0:=Tryz.sizeOf0
 v0:=Tryz.zeroValue0
 t3:=Tryz.underlying3
 a3:=Tryz.isAgg3
 z3:=Tryz.sizeOf3
 v3:=Tryz.zeroValue3
 t4:=Tryz.underlying4
 a4:=Tryz.isAgg4
 z4:=Tryz.sizeOf4
 v4:=Tryz.zeroValue4
 t5:=Tryz.underlying5
 a5:=Tryz.isAgg5
 z5:=Tryz.sizeOf5
 v5:=Tryz.zeroValue5
 t9:=Tryz.underlying9
 a9:=Tryz.isAgg9
 z9:=Tryz.sizeOf9
 v9:=Tryz.zeroValue9
 t22:=Tryz.underlying32
 a22:=Tryz.isAgg32
 z22:=Tryz.sizeOf32
 v22:=Tryz.zeroValue32
 t25:=Tryz.underlying194
 a25:=Tryz.isAgg194
 z25:=Tryz.sizeOf194
 v25:=Tryz.zeroValue194
 t39:=Tryz.underlying172
 a39:=Tryz.isAgg172
 z39:=Tryz.sizeOf172
 v39:=Tryz.zeroValue172
 t45:=Tryz.underlying214
 a45:=Tryz.isAgg214
 z45:=Tryz.sizeOf214
 v45:=Tryz.zeroValue214
 t46:=Tryz.underlying215
 a46:=Tryz.isAgg215
 z46:=Tryz.sizeOf215
 v46:=Tryz.zeroValue215
 t50:=Tryz.underlying219
 a50:=Tryz.isAgg219
 z50:=Tryz.sizeOf219
 v50:=Tryz.zeroValue219
 t53:=Tryz.underlying177
 a53:=Tryz.isAgg177
 z53:=Tryz.sizeOf177
 v53:=Tryz.zeroValue177
 t55:=Tryz.underlying129
 a55:=Tryz.isAgg129
 z55:=Tryz.sizeOf129
 v55:=Tryz.zeroValue129
 t66:=Tryz.underlying222
 a66:=Tryz.isAgg222
 z66:=Tryz.sizeOf222
 v66:=Tryz.zeroValue222
 t70:=Tryz.underlying226
 a70:=Tryz.isAgg226
 z70:=Tryz.sizeOf226
 v70:=Tryz.zeroValue226
 t76:=Tryz.underlying228
 a76:=Tryz.isAgg228
 z76:=Tryz.sizeOf228
 v76:=Tryz.zeroValue228
 t77:=Tryz.underlying229
 a77:=Tryz.isAgg229
 z77:=Tryz.sizeOf229
 v77:=Tryz.zeroValue229
theorem Mo:Tryz.prog.follows .mixedOrders=true:=by kernel_rfl
theorem Kw (K):NK (Mw md) (lift X K (Mw md)):=⟨rfl,(fun _ _ _ h=>by cases h),(fun _ _ _ _ h=>by cases h),rfl⟩
noncomputable def Bn:Xq:=⟨Mw md,X,Kw⟩
theorem F0:Std Bn:=⟨rfl,fun f b h=>by
 unfold XV gL at h;cases a:Mq f [186]with
 |true=>rw[a,cond_true]at h;cases h
 |false=>rw[a,cond_false]at h;exact h⟩
theorem IK (K n):WI Tryz.prog (Bn.E K n):=zu Mo X LX K _ (Kv md) n
theorem HQ {x y}(l:isTerm x=true)(m:isTerm y=true):CC Tryz.prog 166 [.agg x,.agg y] (.one (.int .i64 (Qc x y))):=by
 obtain⟨a,b,c,d,e1,j⟩:=Wt l;obtain⟨e,f,g,i,e2,k⟩:=Wt m;obtain⟨K,n,h⟩:=ma F0 (x:=a) (y:=b) (z:=c) (u:=d) (x2:=e) (y2:=f) (z2:=g) (u2:=i) j.1 k.1;rw[<-e1,<-e2]at h;exact((IK K n).pure _ _ _ h).1
def IG:Xa:=⟨md,fun _ _=>none,
 fun f args H=>bif Nat.beq f 186 then R5 args H else none,
 fun _ _=>none⟩
theorem Fy {x y}(a:isTerm x=true)(b:isTerm y=true):CC Tryz.prog 166 [.agg x,.agg y] (.one (.int .i64 (Tw [] x y))):=HQ a b
theorem Fx {f}{o}(s:SA f o)(p:Vq o)(e:o.length<1000000){x y}(q:isTerm x=true)(r:isTerm y=true):CC Tryz.prog 170 [.agg x,.agg y,.one (.ref [f])] (.one (.int .i64 (Tw o x y))):=by
 obtain⟨a,b,c,d,e1,l⟩:=Wt q;obtain⟨g,i,j,k,e2,m⟩:=Wt r;obtain⟨K,n,h⟩:=xI F0 s p e (x:=a) (y:=b) (z:=c) (u:=d) (x2:=g) (y2:=i) (z2:=j) (u2:=k) l m;rw[<-e1,<-e2]at h;exact((IK K n).pure _ _ _ h).1
theorem AU {args}{H}{d}{Q}(h:R5 args H=some (d,Q)):CH Tryz.prog 186 args H d Q:=by
 unfold R5 at h;split at h
 ·rename_i i XW n n2 D fn;split at h
  ·rename_i o a;obtain⟨B,l⟩:=Wq h;clear h;split at l
   ·rename_i b J;split at l
    ·rename_i c t;obtain⟨S,h⟩:=Wq l;clear l;simp only[Zs,Yq]at S;obtain⟨⟨⟨⟨⟨⟨⟨⟨R,I⟩,c3⟩,c4⟩,c5⟩,c6⟩,W⟩,X⟩,Y⟩:=S;obtain rfl:=Zl c3;obtain rfl:=Zl c5;obtain rfl:=Zl c6;simp only[Zb,Zq]at h;obtain⟨rfl,rfl⟩:=h;have f:TY c:=ZH.1 X;have q:D<4611686018427387904:=by simpa using B
     have hn:c.length<1000000:=by simpa using W
     have C:∀x∈c,¬Tw o x x<0:=fun x m=>u3
     have U:∀x∈c,∀y∈c,∀z∈c,Tw o x y<0->Tw o y z<0->Tw o x z<0:=fun x m y p z P=>qS (f x m) (f y p) (f z P)
     have E:∀x∈c,∀y∈c,∀z∈c,¬Tw o x y<0->¬Tw o y z<0->¬Tw o x z<0:=fun x m y p z P=>uZ (f x m) (f y p) (f z P)
     have F:∀x∈c,∀y∈c,¬Tw o x y<0->¬Tw o y x<0->x=y:=fun x m y p h1 h2=>Rh Y x m y p (uY (f x m) (f y p) h1 h2)
     unfold keyOf at a;split at a
     ·rename_i g;obtain⟨s,l⟩:=X4 a;subst l;obtain rfl:=Zl s;exact Js CT (k:=12) Tryz.isAgg75 Tryz.sizeOf75 rfl rfl (fp Tryz.func166 (by kernel_rfl) rfl) [] (Tw []) H i b c (TJ [] c) D J R I (Zl c4) (iI t) q (by omega)
       (fun x m y p=>Fy (f x m) (f y p)) C U E F (RJ c) (Pa f)
     ·rename_i g j vj;obtain⟨s,l⟩:=Wq a;clear a;rw[Zs,Yq]at s;obtain⟨s,u⟩:=s;obtain rfl:=Zl s;have A:j≠i:=fun e=>by rw[e,Yw]at u;cases u
      split at l
      ·rename_i V K;obtain⟨G,r⟩:=Wq l;clear l;rw[Zs,Yq]at G;obtain⟨M,G⟩:=G;obtain rfl:=Zl G;split at r
       ·rename_i T L;obtain⟨so,ho,N⟩:=wy r;exact G5 CT (k:=12) Tryz.isAgg75 Tryz.sizeOf75 rfl (fp Tryz.func170 (by kernel_rfl) rfl) [.ref [T]] (.one (.fn _ [.ptr j V.XW 0 0])) (Tw o) H i b c (TJ o c) D J R I (Zl c4) (iI t)
         (fun w O μ v hI hr=>HV (by rfl) A J K M (cs:=[T]) (rest:=[]) L w O μ v hI I hr) q (by omega)
         (fun x m y p=>Fx so ho N (f x m) (f y p)) C U E F (RJ c) (Pa f)
       ·cases r
      ·cases l
     ·cases a
    ·cases l
   ·cases l
  ·cases h
 ·rename_i D g Z;obtain⟨B,h⟩:=X4 h;cases h;exact G3 CT rfl D _ H
 ·cases h
theorem G4:rH Tryz.prog 186:=fp Tryz.func186 (by kernel_rfl) rfl
theorem FX:WI Tryz.prog IG:=by
 refine⟨(fun _ _ _ h=>by cases h),fun f args H d b h=> ?_,(fun _ _ _ h=>by cases h)⟩;simp only[IG]at h;cases a:Nat.beq f 186 with
 |true=>
  obtain rfl:=Zl a;exact⟨AU h,G4⟩
 |false=>rw[a]at h;cases h
theorem IA:∀f a,XV f=some a->PY Tryz.prog f a:=vH _ LX
theorem Ku (K):NK IG (lift XV K IG):=by
 refine⟨rfl,(fun _ _ _ h=>by cases h),fun f a H r h=> ?_,rfl⟩;have c:=h;simp only[IG]at h;cases b:Nat.beq f 186 with
 |true=>
  obtain rfl:=Zl b;exact c
 |false=>rw[b]at h;cases h
noncomputable def Bs:Xq:=⟨IG,XV,Ku⟩
theorem Kz:Kn Bs:=⟨⟨rfl,fun _ _ h=>h⟩,fun _ _ _ h=>DT h⟩
theorem Md (K n):WI Tryz.prog (Bs.E K n):=zu Mo XV IA K _ FX n
def Ir:N'->Option (List (List PV))
 |[.ref [.int .i64 (.ofNat n)]]=>bif Nat.blt n 1000000 then some (F5 n)else none
 |_=>none
def E0:Xa:=⟨md,fun _ _=>none,
 fun f args H=>bif Nat.beq f 132 then Qd args H
  else IG.heap f args H,
 fun f caps=>bif Nat.beq f 141 then Ir caps else none⟩
theorem L9:WI Tryz.prog E0:=by
 refine⟨(fun _ _ _ h=>by cases h),fun f args H d c h=> ?_,fun f b g h=> ?_⟩
 ·simp only[E0]at h;cases a:Nat.beq f 132 with
  |true=>
   obtain rfl:=Zl a;rw[a,cond_true]at h;exact Af Mo Kz Md Jd args H d c h
  |false=>
   rw[a,cond_false]at h;exact FX.heap _ _ _ _ _ h
 ·simp only[E0]at h;obtain⟨a,h⟩:=Wq h;obtain rfl:=Zl a;clear a;unfold Ir at h;split at h
  ·rename_i n _;obtain⟨e,rfl⟩:=X4 h;refine⟨wx n (by simpa using e),fp Tryz.func141 (by kernel_rfl) rfl⟩
  ·cases h
theorem Ma (K):NK E0 (lift XV K E0):=by
 refine⟨rfl,(fun _ _ _ h=>by cases h),fun f a H r h=> ?_,rfl⟩;have c:=h;simp only[E0]at h;cases b:Nat.beq f 132 with
 |true=>
  obtain rfl:=Zl b;exact c
 |false=>
  rw[b,cond_false]at h;simp only[IG]at h;cases b:Nat.beq f 186 with
  |true=>
   obtain rfl:=Zl b;exact c
  |false=>rw[b]at h;cases h
noncomputable def BB:Xq:=⟨E0,XV,Ma⟩
theorem Ib:mL BB:=⟨⟨⟨rfl,fun _ _ h=>h⟩,fun _ _ _ h=>h⟩,fun n a=>by
 show(bif Nat.blt n 1000000 then some (F5 n)else none)=some (F5 n);rw[aP a];rfl⟩
theorem KA:q7 BB:=⟨⟨rfl,fun _ _ h=>h⟩,fun _ _ _ h=>h⟩
theorem Me (K n):WI Tryz.prog (BB.E K n):=zu Mo XV IA K _ L9 n
theorem Ap:(BB.E 1000 40).pure 7 []=some (.one (.bool true)):=by kernel_rfl
theorem vY:Xv BB 7 [] (.one (.bool true)):=⟨1000,40,Ap⟩
