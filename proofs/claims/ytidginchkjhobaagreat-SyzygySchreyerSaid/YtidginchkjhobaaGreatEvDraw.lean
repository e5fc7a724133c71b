/- Regions that draw their order, first part: an operation looks only at what it says; the run in the order of the text. -/
import Derived.Test.YtidginchkjhobaaGreatEvFun
namespace Go.Ev
open Go.RowKit
theorem N3 {h j:HF}:∀(k:Nat) (l:DL) (v:PL),XC k h l=some v->(∀id∈Vk k h l,j id=h id)->XC k j l=some v/\Vk k j l=Vk k h l:=by
 have t:∀(k:Nat),(∀(l:DL) (v:PL),XC k h l=some v->(∀id∈Vk k h l,j id=h id)->XC k j l=some v/\Vk k j l=Vk k h l)->
   ∀(o:Y') (n:N'),Xv (XC k h) o=some n->(∀id∈o.flatMap (Vk k h),j id=h id)->Xv (XC k j) o=some n/\o.flatMap (Vk k j)=o.flatMap (Vk k h):=by
  intro k C o;induction o with
  |nil=>intro n g _;exact⟨by rw[fG g];rfl,rfl⟩
  |cons l o J=>
   intro n g d;obtain⟨p,O,N,H,rfl⟩:=map_cons g
   grind [Xv]
 intro k;induction k with
 |zero=>
  intro l v m _;cases l with
  |p l=>grind [XC,Vk]
  |own=>simp[XC]at m
  |ptr=>simp[XC]at m
  |fn=>simp[XC]at m
  |mp=>simp[XC]at m
 |succ k C=>
  intro l v m d;cases l with
  |p l=>grind [XC,Vk]
  |mp _=>simp[XC]at m
  |fn f B=>
   grind [XC,Vk]
  |own id XM u A=>
   simp only[XC]at m;cases q:h id with
   |none=>simp[q]at m
   |some b=>
   simp only[q]at m;simp only[Vk,q,Zj]at d;have y:j id=some b:=by grind
   obtain⟨r,a⟩:=Wg m;cases g:Xv (Xv (XC k h)) ((b.ch.drop u).take A)with
   |none=>simp[g]at a
   |some w=>
   simp only[g,Za]at a;subst a;have x:∀(ch:K') (w:I'),Xv (Xv (XC k h)) ch=some w->(∀id∈ch.flatMap (fun c=>c.flatMap (Vk k h)),j id=h id)->
     Xv (Xv (XC k j)) ch=some w/\(ch.flatMap fun c=>c.flatMap (Vk k j))=ch.flatMap fun c=>c.flatMap (Vk k h):=by
    intro ch;induction ch with
    |nil=>intro w g _;exact⟨by rw[fG g];rfl,rfl⟩
    |cons c ch I=>
     intro w g M;obtain⟨e,D,L,G,rfl⟩:=map_cons g
     grind [Xv]
   obtain⟨E,F⟩:=x _ _ g fun id s=>d id (.inr s)
   simp_all [XC,Vk]
  |ptr id XM i u=>
   simp only[XC]at m;cases q:h id with
   |none=>simp[q]at m
   |some b=>
   simp only[q]at m;obtain⟨r,a⟩:=Wg m;cases z:b.ch[i]? with
   |none=>simp[z]at a
   |some c=>
   simp only[z]at a;simp only[Vk,q,z,Zj]at d;have y:j id=some b:=by grind
   cases g:Xv (XC k h) (c.drop u)with
   |none=>simp[g]at a
   |some K=>
   simp only[g,Za]at a;subst a;obtain⟨E,F⟩:=t k C _ _ g fun id s=>d id (.inr s)
   simp_all [XC,Vk]
theorem jy {h g:HF}(d:DV)(p:PV)(c:XT h d=some p)(b:∀id∈SK h d,g id=h id):XT g d=some p/\SK g d=SK h d:=by
 cases d with
 |X9 _=>simp[XT]at c
 |one l=>
  simp only[XT]at c;cases f:XC WC h l with
  |none=>simp[f]at c
  |some r=>
  simp only[f,Za]at c;subst c;obtain⟨j,k⟩:=N3 _ l r f b;exact⟨by simp[XT,j],k⟩
 |agg n=>
  simp only[XT]at c;cases f:Xv (XC WC h) n with
  |none=>simp[f]at c
  |some a=>
  simp only[f,Za]at c;subst c;have i:∀(e:Y') (a:N'),Xv (XC WC h) e=some a->(∀id∈e.flatMap (Vk WC h),g id=h id)->Xv (XC WC g) e=some a/\e.flatMap (Vk WC g)=e.flatMap (Vk WC h):=by
   intro e;induction e with
   |nil=>intro a m _;exact⟨by rw[fG m];rfl,rfl⟩
   |cons l e q=>
    intro a m b;obtain⟨p,t,s,o,rfl⟩:=map_cons m
    grind [N3,Xv]
  obtain⟨j,k⟩:=i n a f b;exact⟨by simp[XT,j],k⟩
theorem O6 {h c:HF}(l:DL)(b:K')(a:P')(e:Wv h l=some (b,a))(d:∀id∈a,c id=h id):Wv c l=some (b,a):=by
 unfold Wv at e⊢
 grind
theorem filterMap_eq {a c:Type}{f g:a->Option c}:∀(l:List a),(∀x∈l,f x=g x)->l.filterMap f=l.filterMap g
 |[],_=>rfl
 |x::xs,h=>by
  rw[List.filterMap_cons,List.filterMap_cons,h x (by simp),filterMap_eq xs fun y b=>h y (by simp[b])]
theorem bZ (E:Xa){h d:HF}(f:Nat)(g:X')(r:Va)(c:VB E h f g=some r)(a:∀id∈r.rd,d id=h id):VB E d f g=some r:=by
 unfold VB at c⊢;split at c
 ·cases j:Xv (XT h) g with
  |none=>simp[j]at c
  |some e=>
  simp only[j]at c;cases n:E.pure f e with
  |none=>simp[n]at c
  |some t=>
  simp only[n]at c;have k:r.rd=g.flatMap (SK h):=by
   grind
  rw[k]at a;have o:∀(b:X') (e:List PV),Xv (XT h) b=some e->(∀id∈b.flatMap (SK h),d id=h id)->Xv (XT d) b=some e/\b.flatMap (SK d)=b.flatMap (SK h):=by
   intro b;induction b with
   |nil=>intro m i _;exact⟨by rw[fG i];rfl,rfl⟩
   |cons l b s=>
    intro m i a;obtain⟨p,e,j,q,rfl⟩:=map_cons i
    grind [jy,Xv]
  grind [filterMap_eq]
 ·simp at c
 grind [tY]
theorem vA (E:Xa)(base:Nat)(K:cH)(H:X'){h G:HF}(n:Nat)(r:Va)(a:We E base K H h n=some r)(j:∀id∈r.rd,G id=h id):We E base K H G n=some r:=by
 cases K with
 |call f=>exact bZ E f H r a j
 |Sd=>
  simp only[We,Rc]at a⊢
  grind [bZ]
 |load s o=>
  simp only[We,PR]at a⊢;split at a
  ·exact a
  ·rename_i id XM i F
   grind [QL]
  ·simp at a
 |store o=>
  simp only[We,QC]at a⊢;split at a
  ·rename_i id XM i F x
   grind [PE]
  ·simp at a
 |P1 o=>
  simp only[We,VV]at a⊢;split at a
  ·exact a
  ·grind
  ·simp at a
 |slice o lo M=>
  simp only[We,QD]at a⊢;cases L:V7 lo M H with
  |none=>simp[L]at a
  |some q=>
  obtain⟨x,l,u⟩:=q;simp only[L]at a⊢;cases m:WA o h x l u with
  |none=>simp[m]at a
  |some P=>
  obtain⟨d,Q⟩:=P;simp only[m,Za]at a;subst a;have :WA o G x l u=some (d,Q):=by
   unfold WA at m⊢
   grind
  simp only[this]
 |append e o bytes=>
  simp only[We,Vh]at a⊢;split at a
  ·rename_i x y;cases p:Wv h y with
   |none=>simp[p]at a
   |some q=>
   obtain⟨D,g⟩:=q;simp only[p]at a;obtain⟨t,c⟩:=Wg a;have B:∀id∈g,id∈r.rd:=by
    split at c
    ·simp only[WZ]at c
     grind
    ·split at c
     ·rw[YY]at c;split at c
      ·grind [Tv]
      grind [Ry]
     ·simp at c
    ·simp at c
   have I:=O6 y D g p fun id w=>j id (B id w)
   simp only[I,t,cond_true];split at c
   ·exact c
   ·rename_i id XM J;cases v:h id with
    |none=>simp[v]at c
    |some b=>
    simp only[v]at c;have w:G id=h id:=by
     have A:=c;rw[YY]at A;split at A
     ·grind [Tv]
     grind [Ry]
    grind
   ·simp at c
  ·simp at a
 |clear z=>
  simp only[We,QE]at a⊢
  grind
 |copy o=>
  simp only[We,PT]at a⊢;split at a
  ·rename_i id XM F J y;cases v:h id with
   |none=>simp[v]at a
   |some b=>
   simp only[v]at a;cases p:Wv h y with
   |none=>simp[p]at a
   |some q=>
   obtain⟨D,g⟩:=q;simp only[p]at a;have N:r.rd=id::g:=by
    grind [O4]
   grind [O6]
  ·simp at a
 |lookup C k s z S=>
  simp only[We,U9]at a⊢;split at a
  ·rename_i id O
   grind [aA]
  ·simp at a
 |mapUpdate C k s R=>
  simp only[We,VA]at a⊢;split at a
  ·rename_i id O x
   grind [gy]
  ·simp at a
 |OP=>
  simp only[We,TE]at a⊢
  grind
 |_=>exact a
structure tT (E:Xa)(base:Nat)(xs:F')(S:Nat->St)(F:Nat->QA):Prop where
 step:∀i xo,xs[i]? =some xo->Vp E base (Xl E xo.op) xo (S i)=some (S (i+1),(F i).rd,(F i).wr)
 sG:∀i xo,xs[i]? =some xo->(F i).i=i/\(F i).after=xo.after/\(F i).lo=(S i).H.length/\(F i).hi=(S (i+1)).H.length
 heap:∀i xo,xs[i]? =some xo->Xl E xo.op=true->i+1=xs.length/\∀k,k<i->k∈xo.after
theorem P8 (l:P'):∀(i:Nat),SF l i=true->∀k,k<i->k∈l
 |0,_,k,hk=>by omega
 |i+1,h,k,hk=>by
  simp only[SF,Zs]at h;by_cases e:k=i
  ·subst e;simpa using h.1
  ·exact P8 l i h.2 k (by omega)
theorem Bi (E:Xa)(base:Nat):∀(xs:F') (i:Nat) (s d:St) (c:List QA),Tg E base i xs s=some (d,c)->
  ∃(S:Nat->St) (F:Nat->QA),S 0=s/\S xs.length=d/\c=(List.range xs.length).map F/\
   (∀k a,xs[k]? =some a->Vp E base (Xl E a.op) a (S k)=some (S (k+1),(F k).rd,(F k).wr))/\
   (∀k a,xs[k]? =some a->(F k).i=i+k/\(F k).after=a.after/\(F k).lo=(S k).H.length/\(F k).hi=(S (k+1)).H.length)/\
   (∀k a,xs[k]? =some a->Xl E a.op=true->k+1=xs.length/\∀q,q<i+k->q∈a.after)
 |[],i,s,d,c,h=>by
  simp only[Tg,Za,Zp]at h;obtain⟨rfl,rfl⟩:=h;exact⟨fun _=>s,fun _=>⟨0,[],[],[],0,0⟩,rfl,rfl,rfl,fun k a b=>by simp at b,fun k a b=>by simp at b,fun k a b=>by simp at b⟩
 |o::os,i,s,d,c,h=>by
  simp only[Tg]at h;cases j:(Xl E o.op&& !(os.isEmpty&&SF o.after i))with
  |true=>rw[j]at h;simp at h
  |false=>
  rw[j,cond_false]at h;cases l:Vp E base (Xl E o.op) o s with
  |none=>simp[l]at h
  |some q=>
  obtain⟨g,v,x⟩:=q;simp only[l]at h;cases f:Tg E base (i+1) os g with
  |none=>simp[f]at h
  |some u=>
  obtain⟨w,e⟩:=u;simp only[f,Za,Zp]at h;obtain⟨rfl,rfl⟩:=h;obtain⟨S,F,h0,r,m,t,n,p⟩:=Bi E base os (i+1) g w e f;refine⟨fun k=>match k with |0=>s|k+1=>S k,fun k=>match k with |0=>⟨i,v,x,o.after,s.H.length,g.H.length⟩|k+1=>F k,rfl,r,?_,?_,?_,?_⟩
  ·simp_all [List.range_succ_eq_map]
  ·grind
  ·grind
  ·intro k a b y;cases k with
   |zero=>
    grind [P8]
   |succ k=>
    grind
theorem Eu (E:Xa)(base:Nat)(xs:F')(s g:St)(h:TB E base xs s=some g):
  ∃S F,tT E base xs S F/\S 0=s/\S xs.length=g/\∀i j,i<xs.length->j<xs.length->i≠j->OV (F i) (F j)=true\/((F i).wr=[]/\(F i).lo=(F i).hi):=by
 unfold TB at h;cases a:Tg E base 0 xs s with
 |none=>simp[a]at h
 |some q=>
 obtain⟨p,c⟩:=q;simp only[a]at h;obtain⟨d,rfl⟩:=XX h;obtain⟨S,F,h0,o,l,b,m,n⟩:=Bi E base xs 0 s p c a;refine⟨S,F,⟨b,fun i r e=>by grind,fun i r e t=>by grind⟩,h0,o,fun i j e u _=> ?_⟩;unfold RZ at d;rw[ZI]at d;have f:∀k,k<xs.length->F k∈c:=fun k v=>by grind
 grind [Zl]
theorem vi {E:Xa}{a:Option Nat}{f:Nat}{d:X'}{s b:St}{c e:P'}(h:Vq E a f d s=some (b,c,e)):∃v,b.T=OD s.T a v:=by
 unfold Vq at h
 grind [Tq]
theorem GS {E:Xa}{base:Nat}{a:Xy}{s b:St}{c d:P'}(h:Vp E base (Xl E a.op) a s=some (b,c,d)):∃v,b.T=OD s.T a.dst v:=by
 unfold Vp at h;split at h
 ·simp at h
 ·grind [Tq]
 ·split at h
  ·simp at h
  ·simp only[YY]at h;split at h
   ·unfold Pq at h
    grind [vi]
   ·split at h
    ·simp only[Pr,aT,Tq,cM,jZ,Za,Zp]at h;grind
    ·simp at h
theorem nL {E:Xa}{base:Nat}{a:Xy}{s c:St}{b e:P'}(h:Vp E base (Xl E a.op) a s=some (c,b,e))(g:Xl E a.op=false):
  (UW s.T a.guard=some false/\c=⟨OD s.T a.dst (.X9 []),s.H⟩/\b=[]/\e=[])\/
  (UW s.T a.guard=some true/\∃d r,Xv (Vs.eval s.T) a.args=some d/\We E base a.op d (Xj s.H) s.H.length=some r/\c=⟨OD s.T a.dst r.val,Ng (VZ s.H r.wr) r.al⟩/\b=r.rd/\e=r.wr.map (·.1)):=by
 unfold Vp at h;split at h
 ·simp at h
 ·grind [Tq]
 ·rename_i f;right;refine⟨f,?_⟩;split at h
  ·simp at h
  ·rename_i d i;rw[g]at h;simp only[Bool.false_and,cond_false]at h;split at h
   ·rename_i r j;simp only[Pr,aT,Tq,cM,jZ,Za,Zp]at h;grind
   ·simp at h
theorem zS (T:List (Nat×DV))(a:Option Nat)(v:DV)(t:Nat)(h:a≠some t):Xh (OD T a v) t=Xh T t:=by
 cases a with
 |none=>rfl
 |some d=>
  simp_all [OD,UR]
section
variable {E:Xa}{base:Nat}{xs:F'}{S:Nat->St}{F:Nat->QA}
theorem tT.Q6 (R:tT E base xs S F)(t a:Nat):∀(b:Nat),a<=b->b<=xs.length->(∀k c,a<=k->k<b->xs[k]? =some c->c.dst≠some t)->Xh (S b).T t=Xh (S a).T t:=by
 intro b;induction b with
 |zero=>grind
 |succ b j=>
  intro f g h;by_cases e:a=b+1
  ·rw[e]
  ·have d:xs[b]? =some xs[b]:=Zg (by omega);obtain⟨v,i⟩:=GS (R.step b _ d)
   grind [zS]
theorem kS (H a:V')(id:Nat)(h:id<H.length):Xj (Ng H a) id=Xj H id:=by grind [PA,Xj]
theorem SE:∀(a:List (Nat×Xx)) (H:V'),(VZ H a).length=H.length
 |[],_=>rfl
 |(id,b)::a,H=>by simp only[VZ];rw[SE a];simp
theorem fu:∀(a:List (Nat×Xx)) (H:V') (id:Nat),id∉a.map (·.1)->Xj (VZ H a) id=Xj H id
 |[],_,_,_=>rfl
 |(i,b)::a,H,id,h=>by
  simp only[Zt,Zj,not_or]at h;simp only[VZ];rw[fu a _ id h.2]
  grind [Xj]
theorem uc {b:Xy}{s a:St}{e c:P'}(h:Vp E base (Xl E b.op) b s=some (a,e,c))(d:Xl E b.op=false):s.H.length<=a.H.length/\∀id,id<s.H.length->id∉c->Xj a.H id=Xj s.H id:=by
 rcases nL h d with⟨_,rfl,_,_⟩|⟨_,f,r,_,_,rfl,_,rfl⟩
 ·grind
 grind [PA,SE,kS,fu]
theorem tT.O8 (R:tT E base xs S F)(id a:Nat)(l:id<(S a).H.length):∀(b:Nat),a<=b->b<=xs.length->(∀k d,a<=k->k<b->xs[k]? =some d->Xl E d.op=false/\id∉(F k).wr)->Xj (S b).H id=Xj (S a).H id/\id<(S b).H.length:=by
 intro b;induction b with
 |zero=>grind
 |succ b o=>
  intro i j g;by_cases e:a=b+1
  ·grind
  ·have c:xs[b]? =some xs[b]:=Zg (by omega);obtain⟨f,h⟩:=g b _ (by omega) (by omega) c;obtain⟨m,n⟩:=uc (R.step b _ c) f
   grind
theorem tT.Qk (R:tT E base xs S F)(a:Nat):∀(b:Nat),a<=b->b<=xs.length->(∀k d,a<=k->k<b->xs[k]? =some d->Xl E d.op=false)->(S a).H.length<=(S b).H.length:=by
 intro b;induction b with
 |zero=>grind
 |succ b j=>
  intro g h f;by_cases e:a=b+1
  ·grind
  ·have c:xs[b]? =some xs[b]:=Zg (by omega);obtain⟨i,_⟩:=uc (R.step b _ c) (f b _ (by omega) (by omega) c)
   grind
theorem Gj (S:Nat->St)(id:Nat)(h0:(S 0).H.length<=id):∀(b:Nat),id<(S b).H.length->∃k,k<b/\(S k).H.length<=id/\id<(S (k+1)).H.length:=by
 intro b;induction b with
 |zero=>intro h;omega
 |succ b a=>
  grind
end
theorem ni:∀(b done:F'),∃a,WN done b=done++a/\a.length=b.length/\∀(i:Nat) (y:Xy),a[i]? =some y->∃o,b[i]? =some o/\y.dst=o.dst/\y.op=o.op/\y.args=o.args/\y.guard=o.guard/\(∀k∈o.after,k∈y.after)/\
  ∀k∈y.after,k∈o.after\/∃j∈o.after,∃p,(done++a)[j]? =some p/\k∈p.after
 |[],done=>⟨[],by simp[WN],rfl,fun i y h=>by simp at h⟩
 |o::b,done=>by
  obtain⟨a,f,e,g⟩:=ni b (done++[{o with after:=dd (o.after++o.after.flatMap (gq done))}]);refine⟨{o with after:=dd (o.after++o.after.flatMap (gq done))}::a,?_,by simp[e],fun i y c=> ?_⟩
  ·grind [WN]
  ·cases i with
   |zero=>
    simp at c;subst c;refine⟨o,rfl,rfl,rfl,rfl,rfl,fun k d=>(uX _ _).2 (ZW.2 (.inl d)),fun k d=> ?_⟩
    grind [uX,gq]
   |succ i=>
    grind
theorem vH (a:F'):(WN [] a).length=a.length/\∀(i:Nat) (y:Xy),(WN [] a)[i]? =some y->∃o,a[i]? =some o/\y.dst=o.dst/\y.op=o.op/\y.args=o.args/\y.guard=o.guard/\(∀k∈o.after,k∈y.after)/\
  ∀k∈y.after,k∈o.after\/∃j∈o.after,∃p,(WN [] a)[j]? =some p/\k∈p.after:=by
 obtain⟨e,b,c,d⟩:=ni a []
 grind
end Go.Ev
namespace Go.Ev
open Go.RowKit
theorem Tf (T:List (Nat×DV)):∀(a:P') (t:Nat),t∈a->Xh (V3 T a) t=Xh T t
 |[],t,h=>by simp at h
 |k::a,t,h=>by
  simp only[V3];cases c:Xh T k with
  |none=>
   rcases Zj.1 h with rfl|h1
   ·by_cases f:t∈a
    ·exact Tf T a t f
    ·simp only[];cases g:Xh (V3 T a) t with
     |none=>rw[c]
     |some d=>grind [Qq]
   ·exact Tf T a t h1
  |some v=>
   simp only[UR];by_cases e:k=t
   ·grind
   ·rw[if_neg e];exact Tf T a t ((Zj.1 h).resolve_left fun b=>e b.symm)
theorem Ab (T:List (Nat×DV))(a:P')(x:Vs)(h:∀t∈x.tmp,t∈a):x.eval (V3 T a)=x.eval T:=by
 cases x with
 |t n=>grind [Vs.eval,Tf,Vs.tmp]
 |c v=>rfl
theorem iZ {a c:Type}{f g:a->Option c}:∀(l:List a),(∀x∈l,f x=g x)->Xv f l=Xv g l
 |[],_=>rfl
 |x::xs,h=>by simp only[Xv];rw[h x (by simp),iZ xs fun y b=>h y (by simp[b])]
theorem jt (T:List (Nat×DV))(a:P')(g:Option (Nat×Bool))(h:∀t b,g=some (t,b)->t∈a):UW (V3 T a) g=UW T g:=by
 cases g with
 |none=>rfl
 |some q=>obtain⟨t,b⟩:=q;simp only[UW];grind [Tf]
structure vQ (xs:F'):Prop where
 back:∀(i:Nat) (xo:Xy),xs[i]? =some xo->∀j∈xo.after,j<i
 uniq:∀(i j:Nat) (xi xj:Xy) (d:Nat),xs[i]? =some xi->xs[j]? =some xj->i≠j->xj.dst=some d->xi.dst≠some d
 order:∀(i j:Nat) (xi xj:Xy) (d:Nat),xs[i]? =some xi->xs[j]? =some xj->i≠j->xj.dst=some d->d∈xi.tmps->j∈xi.after\/i∈xj.after
theorem Fu (xs:F')(h:jz xs=true):vQ xs:=by
 unfold jz at h;rw[ZI]at h;have n:∀(i:Nat) (b:Xy),xs[i]? =some b->(b,i)∈xs.zipIdx:=fun i b g=>by
  grind
 have g:∀(i:Nat) (b:Xy),xs[i]? =some b->(b.after.all (fun j=>Nat.blt j i)=true)/\∀(j:Nat) (f:Xy),xs[j]? =some f->i≠j->∀d,f.dst=some d->(b.dst≠some d)/\(d∈b.tmps->j∈b.after\/i∈f.after):=by
  grind
 exact⟨fun i b a j m=>Qy (ZI.1 (g i b a).1 j m),fun i j l f d a e c k=>((g i l a).2 j f e c d k).1,fun i j l f d a e c k=>((g i l a).2 j f e c d k).2⟩
structure Touch (xs:F')(F:Nat->QA):Prop where
 wr:∀(i j:Nat) (xi:Xy),xs[i]? =some xi->j<xs.length->i≠j->∀id∈(F i).wr,id∉(F j).wr/\(id∈(F j).rd->j∈xi.after)
 made:∀(i j:Nat) (xj:Xy),i<xs.length->xs[j]? =some xj->i≠j->∀id,(F i).lo<=id->id<(F i).hi->(id∈(F j).rd\/id∈(F j).wr)->i∈xj.after
theorem AQ {E:Xa}{base:Nat}{xs:F'}{S:Nat->St}{F:Nat->QA}(R:tT E base xs S F)(h:∀i j,i<xs.length->j<xs.length->i≠j->OV (F i) (F j)=true\/((F i).wr=[]/\(F i).lo=(F i).hi)):Touch xs F:=by
 have c:∀(i:Nat) (p:Xy),xs[i]? =some p->i<xs.length:=fun i p b=>(Zf.1 b).1
 have o:∀i j,i<xs.length->j<xs.length->i≠j->OV (F i) (F j)=true->
   (∀id∈(F i).wr,id∉(F j).wr/\(id∈(F j).rd->(F j).i∈(F i).after))/\(∀id,(F i).lo<=id->id<(F i).hi->(id∈(F j).rd\/id∈(F j).wr)->(F i).i∈(F j).after):=by
  intro i j b g d a;unfold OV at a;have e1:=(R.sG i _ (Zg b)).1;have e2:=(R.sG j _ (Zg g)).1;rw[Bool.or_eq_true]at a;rcases a with a|a
  ·grind [Zl]
  ·simp only[Zs,ZI]at a;obtain⟨⟨s,t⟩,u⟩:=a;refine⟨fun id l=> ?_,fun id m k n=> ?_⟩
   ·grind
   ·have v:(Nat.ble (F i).lo id&&Nat.blt id (F i).hi)=true:=by
     simp_all
    grind
 refine⟨fun i j q e g d id l=> ?_,fun i j r b f d id m k n=> ?_⟩
 ·have b:=c i q e;have e1:=(R.sG i _ e).2.1;have e2:=(R.sG j _ (Zg g)).1
  grind
 ·have g:=c j r f;have e1:=(R.sG j _ f).2.1;have e2:=(R.sG i _ (Zg b)).1
  grind
structure Part (lo nt:Nat)(O:BS)(xs:F')(S:Nat->St)(F:Nat->QA)(L:Nat->Prop)(w:World)(μ:Nat->Nat)(h:HF)(a:Act):Prop where
 nb:Marks lo O w μ h a.defers
 sz:a.tmps.size=nt
 done:∀(i:Nat) (xo:Xy),xs[i]? =some xo->L i->∀t,xo.dst=some t->∀d,Xh (S (i+1)).T t=some d->XA w O μ h (a.tmps.getD t undef) d
 rest:∀t,(∀(i:Nat) (xo:Xy),xs[i]? =some xo->L i->xo.dst≠some t)->∀d,Xh (S 0).T t=some d->XA w O μ h (a.tmps.getD t undef) d
 inv:X3 w O μ h
 wr:∀i,i<xs.length->L i->∀id∈(F i).wr,h id=Xj (S (i+1)).H id
 KN:∀id,id<(S 0).H.length->(∀i,i<xs.length->L i->id∉(F i).wr)->h id=Xj (S 0).H id
 new:∀k,k<xs.length->L k->∀id,(S k).H.length<=id->id<(S (k+1)).H.length->(∀i,i<xs.length->L i->id∉(F i).wr)->h id=Xj (S (k+1)).H id
 none:∀id,(S 0).H.length<=id->(∀k,k<xs.length->L k->¬((S k).H.length<=id/\id<(S (k+1)).H.length))->h id=none
section
variable {lo:Nat}{E:Xa}{base nt:Nat}{O:BS}{xs:F'}{S:Nat->St}{F:Nat->QA}{L:Nat->Prop}{w:World}{μ:Nat->Nat}{h:HF}{a:Act}
theorem Part.lE (p:Part lo nt O xs S F L w μ h a)(R:tT E base xs S F)(n:vQ xs){j:Nat}{o:Xy}(B:xs[j]? =some o)(D:¬L j)(z:∀k∈o.after,L k)(A:∀(i:Nat) (f:Xy),xs[i]? =some f->L i->∀k∈f.after,L k):
  Wz lo nt O w μ h a (V3 (S j).T o.tmps):=by
 have N:j<xs.length:=(Zf.1 B).1;refine⟨p.nb,p.sz,fun t d I=> ?_⟩;have G:t∈o.tmps:=by
  have u:∀(s:P'),Xh (V3 (S j).T s) t=some d->t∈s:=by
   intro s;induction s with
   |nil=>grind [V3,Xh]
   |cons k s U=>
    intro h;simp only[V3]at h;cases Q:Xh (S j).T k with
    |none=>grind
    |some v=>
     grind [UR]
  exact u _ I
 have c:=Qq _ _ _ _ I;by_cases q:∃(i:Nat) (f:Xy),xs[i]? =some f/\i≠j/\f.dst=some t
 ·obtain⟨i,f,l,C,g⟩:=q;have K:i<xs.length:=(Zf.1 l).1;rcases n.order j i o f t B l (fun e=>C e.symm) g G with h1|h1
  ·have J:=n.back j o B i h1;have:=R.Q6 t (i+1) j (by omega) (by omega) fun k m P r b=>n.uniq k i m f t b l (by omega) g
   rw[this]at c;exact p.done i f l (z i h1) t g d c
  ·have M:=n.back i f l j h1;have H:¬L i:=fun x=>D (A i f l x j h1)
   have:=R.Q6 t 0 j (by omega) (by omega) fun k m _ r b=>n.uniq k i m f t b l (by omega) g
   rw[this]at c;refine p.rest t (fun k m b y=> ?_) d c;by_cases e:k=i
   ·grind
   ·exact n.uniq k i m f t b l e g
 ·have:=R.Q6 t 0 j (by omega) (by omega) fun k m _ r b g=>q ⟨k,m,b,by omega,g⟩
  rw[this]at c;refine p.rest t (fun k m b y g=> ?_) d c
  grind
theorem Part.heap (p:Part lo nt O xs S F L w μ h a)(R:tT E base xs S F)(J:vQ xs)(A:Touch xs F){j:Nat}{B:Xy}(D:xs[j]? =some B)(y:¬L j)(u:∀k∈B.after,L k)(K:∀(i:Nat) (I:Xy),xs[i]? =some I->L i->∀k∈I.after,L k)
  (m:∀(k:Nat) (o:Xy),k<j->xs[k]? =some o->Xl E o.op=false) (id:Nat) (f:id∈(F j).rd) (l:id<(S j).H.length):h id=Xj (S j).H id:=by
 have g:j<xs.length:=(Zf.1 D).1;have b:∀i,i<xs.length->L i->id∉(F i).wr:=by
  intro i M s z;have x:i≠j:=fun e=>y (e▸s)
  have d:xs[i]? =some xs[i]:=Zg M;have:=(A.wr i j _ d g x id z).2 f
  grind
 have c:∀(k:Nat),k<j->id∉(F k).wr:=by
  intro k n z;have d:xs[k]? =some xs[k]:=Zg (by omega);have:=(A.wr k j _ d g (by omega) id z).2 f;have:=J.back k _ d j this;omega
 by_cases h0:id<(S 0).H.length
 ·rw[p.KN id h0 b];exact((R.O8 id 0 h0 j (by omega) (by omega) fun k o _ n d=>⟨m k o n d,c k n⟩).1).symm
 ·obtain⟨k,n,C,r⟩:=Gj S id (by omega) j l;have v:xs[k]? =some xs[k]:=Zg (by omega);obtain⟨_,_,e1,e2⟩:=R.sG k _ v;have t:L k:=u k (A.made k j B (by omega) D (by omega) id (by rw[e1];exact C) (by rw[e2];exact r) (.inl f));rw[p.new k (by omega) t id C r b];exact((R.O8 id (k+1) r j (by omega) (by omega) fun q N _ G d=>⟨m q N G d,c q G⟩).1).symm
end
end Go.Ev
namespace Go.Ev
open Go.RowKit
theorem Ot:∀(a:List (Nat×Xx)) (h:HF) (id:Nat),id∉a.map (·.1)->Sg h a id=h id
 |[],_,_,_=>rfl
 |(i,b)::a,h,id,hn=>by
  simp only[Zt,Zj,not_or]at hn;simp only[Sg];rw[Ot a _ id hn.2];simp[hn.1]
theorem qh:∀(a:List (Nat×Xx)) (h c:HF) (id:Nat),id∈a.map (·.1)->Sg h a id=Sg c a id
 |[],_,_,_,hn=>by simp at hn
 |(i,b)::a,h,c,id,hn=>by
  simp only[Sg];by_cases d:id∈a.map (·.1)
  ·exact qh a _ _ id d
  grind [Ot]
theorem Q4:∀(a:V') (h:HF) (n id:Nat),(id<n\/n+a.length<=id)->RN h n a id=h id
 |[],_,_,_,_=>rfl
 |b::bs,h,n,id,hn=>by
  simp only[RN];rw[Q4 bs _ (n+1) id (by grind)]
  grind
theorem qj:∀(a:V') (h c:HF) (n id:Nat),n<=id->id<n+a.length->RN h n a id=RN c n a id
 |[],_,_,_,_,_,hn=>by simp at hn;omega
 |b::bs,h,c,n,id,h1,hn=>by
  simp only[RN];by_cases e:id=n
  ·grind [Q4]
  ·exact qj bs _ _ _ _ (by omega) (by grind)
section
variable {lo:Nat}{E:Xa}{base nt:Nat}{O:BS}{xs:F'}{S:Nat->St}{F:Nat->QA}{L:Nat->Prop}{w w':World}{μ μ':Nat->Nat}{h:HF}{a:Act}
theorem Nw (a:Act)(b:Option Nat)(v:Value)(t:Nat)(c:b≠some t):(a.put b v).tmps.getD t undef=a.tmps.getD t undef:=by
 cases b with
 |none=>rfl
 |some q=>
  simp_all [Act.put]
theorem qZ (a:Act)(t:Nat)(v:Value)(b:t<a.tmps.size):(a.put (some t) v).tmps.getD t undef=v:=by simp_all [Act.put]
theorem put_defers (a:Act)(b:Option Nat)(v:Value):(a.put b v).defers=a.defers/\(a.put b v).tmps.size=a.tmps.size:=by
 cases b<;>simp[Act.put]
theorem tT.inner (R:tT E base xs S F){i:Nat}{a:Xy}(c:xs[i]? =some a)(d:i+1<xs.length):Xl E a.op=false:=by
 cases b:Xl E a.op with
 |false=>rfl
 |true=>have:=(R.heap i a c b).1;omega
theorem Part.add (p:Part lo nt O xs S F L w μ h a)(R:tT E base xs S F)(W:vQ xs)(V:Touch xs F){j:Nat}{n:Xy}(G:xs[j]? =some n)(u:¬L j)
  (M:∀(i:Nat) (B:Xy),xs[i]? =some B->L i->∀k∈B.after,L k) (z:Od nt n.dst=true) (d:DV) (v:Value) (y:List (Nat×Xx)) (s:V')
  (hS:S (j+1)=⟨OD (S j).T n.dst d,Ng (VZ (S j).H y) s⟩) (hF:(F j).wr=y.map (·.1)) (a1:∀q∈y,q.1<(S j).H.length/\∃b,h q.1=some b)
  (hv:XA w' O μ' (RN (Sg h y) (S j).H.length s) v d) (hI:X3 w' O μ' (RN (Sg h y) (S j).H.length s)) (Q:Wy O w μ h w' μ' (RN (Sg h y) (S j).H.length s)):
  Part lo nt O xs S F (fun i=>L i\/i=j) w' μ' (RN (Sg h y) (S j).H.length s) (a.put n.dst v):=by
 have o:j<xs.length:=(Zf.1 G).1;have a0:(S (j+1)).H.length=(S j).H.length+s.length:=by grind [PA,SE]
 have X:(S 0).H.length<=(S j).H.length:=R.Qk 0 j (by omega) (by omega) fun k xk _ J x=>R.inner x (by omega)
 have D:Xj (S (j+1)).H=RN (Sg (Xj (S j).H) y) (S j).H.length s:=by
  grind [pG,PA,gu]
 have r:∀id,id∉(F j).wr->¬((S j).H.length<=id/\id<(S (j+1)).H.length)->RN (Sg h y) (S j).H.length s id=h id:=by
  grind [Q4,Ot]
 refine⟨by rw[(put_defers a n.dst v).1];exact p.nb.mono Q,(put_defers a n.dst v).2.trans p.sz,fun i B g c t C dd N=> ?_,fun t C dd N=> ?_,hI,fun i g c id l=> ?_,fun id l f=> ?_,fun k J c id Y Z f=> ?_,fun id h0 f=> ?_⟩
 ·rcases c with c|rfl
  ·have m:i≠j:=fun e=>u (e▸c)
   rw[Nw a n.dst v t (W.uniq j i n B t G g (fun e=>m e.symm) C)];exact(p.done i B g c t C dd N).mono Q
  ·rw[G]at g;cases g;rw[C]at z⊢;rw[qZ a t v (by rw[p.sz];exact Qy z)]
   simp_all [OD,UR]
 ·have P:n.dst≠some t:=C j n G (.inr rfl);rw[Nw a n.dst v t P];exact(p.rest t (fun i B g c=>C i B g (.inl c)) dd N).mono Q
 ·rcases c with c|rfl
  ·have m:i≠j:=fun e=>u (e▸c)
   have x:xs[i]? =some xs[i]:=Zg g;rw[r id ((V.wr i j _ x o m id l).1) fun U=> ?_]
   ·exact p.wr i g c id l
   ·obtain⟨_,_,e1,e2⟩:=R.sG j n G;exact u (M i _ x c j (V.made j i _ o x (fun e=>m e.symm) id (by rw[e1];exact U.1) (by rw[e2];exact U.2) (.inr l)))
  ·rw[hF]at l;have A:id<(S i).H.length:=by
    grind
   rw[D,Q4 s _ _ id (.inl A),Q4 s _ _ id (.inl A)]
   grind [qh]
 ·rw[r id (f j o (.inr rfl)) (by omega)];exact p.KN id l fun i g c=>f i g (.inl c)
 ·rcases c with c|rfl
  ·have m:k≠j:=fun e=>u (e▸c)
   have I:¬((S j).H.length<=id/\id<(S (j+1)).H.length):=by
    intro U;rcases Nat.lt_or_gt_of_ne m with A|hgt
    ·have:=R.Qk (k+1) j (by omega) (by omega) fun q xq _ hq x=>R.inner x (by omega)
     omega
    ·have:=R.Qk (j+1) k (by omega) (by omega) fun q xq _ hq x=>R.inner x (by omega)
     omega
   rw[r id (f j o (.inr rfl)) I];exact p.new k J c id Y Z fun i g K=>f i g (.inl K)
  ·rw[D]
   grind [qj]
 ·have I:¬((S j).H.length<=id/\id<(S (j+1)).H.length):=f j o (.inr rfl);have hn:=p.none id h0 fun k J c=>f k J (.inl c)
  grind
end
end Go.Ev
namespace Go.Ev
open Go.RowKit
theorem filter_lt {c:Type}(p q:c->Bool):∀(l:List c),(∀x∈l,q x=true->p x=true)->(∃x∈l,p x=true/\q x=false)->(l.filter q).length<(l.filter p).length
 |[],_,h=>by grind
 |y::l,h1,h2=>by
  have d:(l.filter q).length<=(l.filter p).length:=by
   clear h2;induction l with
   |nil=>simp
   |cons z l f=>
    grind
  by_cases b:p y=true/\q y=false
  ·simp[b.1,b.2];omega
  ·have a:∃x∈l,p x=true/\q x=false:=by
    grind
   have:=filter_lt p q l (fun x e=>h1 x (by simp[e])) a
   grind
def GN (n:Nat)(listed:Array Bool):Nat:=((List.range n).filter fun i=> !listed.getD i false).length
theorem vZ (n:Nat)(a:Array Bool)(i:Nat)(b:i<n)(c:a.size=n)(h:a.getD i false=false):GN n (a.setIfInBounds i true)<GN n a:=by
 refine filter_lt _ _ _ (fun x _ d=> ?_) ⟨i,List.mem_range.2 b,by simp[h],?_⟩
 ·by_cases e:i=x
  ·grind
  simp_all
 simp_all
theorem qk (n:Nat)(a:Array Bool)(h:GN n a=0):∀i,i<n->a.getD i false=true:=by grind [GN,List.filter_eq_nil_iff]
theorem Pa (b:Array Oper)(a:Array Bool)(i:Nat):i∈Region.ready .any b a↔i<b.size/\a.getD i true=false/\∀o,b[i]? =some o->∀e∈o.after,Region.binds .any e=true->a.getD e.on false=true:=by
 unfold Region.ready;rw[Yo,List.mem_range];constructor
 ·intro⟨d,c⟩;simp only[Zs,YB]at c
  grind [Array.all_eq_true_iff_forall_mem]
 grind
section
variable {lo:Nat}{P:Program}{E:Xa}{base nt:Nat}{O:BS}{xs:F'}{S:Nat->St}{F:Nat->QA}{L:Nat->Prop}{w:World}{μ:Nat->Nat}{h:HF}{a:Act}
theorem tT.IU (R:tT E base xs S F){i:Nat}{b:Xy}(f:xs[i]? =some b)(d:Xl E b.op=false):∀id∈(F i).wr,id<(S i).H.length:=by
 intro id a;rcases nL (R.step i b f) d with⟨_,_,_,e⟩|⟨_,h,r,_,c,_,_,e⟩
 ·grind
 ·rw[e]at a;obtain⟨q,g,rfl⟩:=ZM.1 a
  grind [gh,Xj]
theorem Part.full (p:Part lo nt O xs S F L w μ h a)(R:tT E base xs S F)(N:vQ xs)(U:Touch xs F)(m:Nat)(z:m<=xs.length)(x:∀i,i<xs.length->(L i↔i<m))(g:∀(k:Nat) (o:Xy),k<m->xs[k]? =some o->Xl E o.op=false):
  Wz lo nt O w μ h a (S m).T/\h=Xj (S m).H:=by
 have f:∀(i:Nat) (b:i<xs.length),xs[i]? =some (xs[i]'b):=fun i b=>Zg b
 have v:∀(i:Nat) (l:Xy),xs[i]? =some l->i<xs.length:=fun i l b=>(Zf.1 b).1
 refine⟨⟨p.nb,p.sz,fun t d C=> ?_⟩,?_⟩
 ·by_cases e:∃(i:Nat) (l:Xy),xs[i]? =some l/\i<m/\l.dst=some t
  ·obtain⟨i,l,b,n,c⟩:=e;have:=R.Q6 t (i+1) m (by omega) z fun k o I r j=>N.uniq k i o l t j b (by omega) c
   rw[this]at C;exact p.done i l b ((x i (v i l b)).2 n) t c d C
  ·have:=R.Q6 t 0 m (by omega) z fun k o _ r j c=>e ⟨k,o,j,r,c⟩
   rw[this]at C;exact p.rest t (fun i l b u c=>e ⟨i,l,b,(x i (v i l b)).1 u,c⟩) d C
 ·funext id;by_cases e:∃i,i<m/\id∈(F i).wr
  ·obtain⟨i,n,s⟩:=e;have b:i<xs.length:=by omega
   rw[p.wr i b ((x i b).2 n) id s];have M:=R.IU (f i b) (g i _ n (f i b)) id s;have V:=(uc (R.step i _ (f i b)) (g i _ n (f i b))).1;exact((R.O8 id (i+1) (by omega) m (by omega) z fun k o I r j=>⟨g k o r j,(U.wr i k _ (f i b) (v k o j) (by omega) id s).1⟩).1).symm
  ·have A:∀i,i<xs.length->L i->id∉(F i).wr:=fun i b u s=>e ⟨i,(x i b).1 u,s⟩
   by_cases h0:id<(S 0).H.length
   ·rw[p.KN id h0 A];exact((R.O8 id 0 h0 m (by omega) z fun k o _ y B=>⟨g k o y B,fun s=>e ⟨k,y,s⟩⟩).1).symm
   ·by_cases M:id<(S m).H.length
    ·obtain⟨k,y,P,K⟩:=Gj S id (by omega) m M;rw[p.new k (by omega) ((x k (by omega)).2 y) id P K A];exact((R.O8 id (k+1) K m (by omega) z fun q J _ D B=>⟨g q J D B,fun s=>e ⟨q,D,s⟩⟩).1).symm
    ·rw[p.none id (by omega) fun k y G W=> ?_]
     ·grind [Xj]
     ·have Q:=(x k y).1 G;have:=R.Qk (k+1) m (by omega) z fun q J _ D B=>g q J D B
      omega
theorem cc (E:Xa)(base:Nat)(heap:Bool)(x y:Xy)(s:St)(b:x.dst=y.dst)(c:x.op=y.op)(e:x.args=y.args)(h:x.guard=y.guard):Vp E base heap x s=Vp E base heap y s:=by
 obtain⟨d,o,a,g,f⟩:=x;obtain⟨j,m,i,l,k⟩:=y;simp only at b c e h;subst b;subst c;subst e;subst h;rfl
theorem Th {b:List Oper}{o:Oper}{a:Xy}(h:UL P nt b o=some a):XU P o.op=some (a.op,a.args)/\R9 b o.guard=some a.guard/\a.dst=o.dst/\Od nt o.dst=true/\a.after=(o.after.toList.filter (Region.binds .any)).map (·.on):=by
 unfold UL at h
 grind
end
end Go.Ev
namespace Go.Ev
open Go.RowKit
theorem ou (n:Nat)(p:Nat->Bool):(∀i,i<n->p i=true)\/∃i,i<n/\p i=false/\∀k,k<i->p k=true:=by
 induction n with
 |zero=>grind
 |succ n a=>
  grind
theorem QK (l:Array Bool)(i:Nat)(h:i<l.size):l.getD i true=l.getD i false:=by
 simp[h]
theorem tw {F:Fence}{n:Nat}{P:Program}{c:Array Oper}{Q:Exit->Act->World->Prop}(d:Nat)(b:Array Bool)(a:Act)(w:World)(h:b.size=c.size)(e:∀i,i<c.size->b.getD i false=true)(f:Q .normal a w):wpAnyIn F n P .any c Q d b a w:=by
 have g:Region.ready .any c b=[]:=by
  simp_all [List.eq_nil_iff_forall_not_mem,Pa]
 cases d with
 |zero=>exact⟨g,f⟩
 |succ k=>exact⟨fun _=>f,fun i j=>by grind⟩
theorem Qd (l:Array Bool)(i k:Nat)(a:i<l.size):(l.setIfInBounds i true).getD k false=true↔l.getD k false=true\/k=i:=by
 by_cases e:i=k
 ·simp_all
 ·rw[Yc,Array.getElem?_setIfInBounds_ne e,<-Yc]
  grind
theorem uK {lo nt:Nat}{O:BS}{xs:F'}{S:Nat->St}{F:Nat->QA}{L b:Nat->Prop}{w:World}{μ:Nat->Nat}{h:HF}{a:Act}(c:L=b)(p:Part lo nt O xs S F L w μ h a):Part lo nt O xs S F b w μ h a:=c▸p
theorem FD (E:Xa)(base:Nat)(A:cH)(B:X')(h:HF)(n:Nat)(r:Va)(a:We E base A B h n=some r):∀id∈r.rd,∃b,h id=some b:=by
 have pure:∀f t,VB E h f t=some r->∀id∈r.rd,∃b,h id=some b:=by
  intro f t u id l;by_cases K:E.mode f=.view\/E.mode f=.fresh
  ·grind [VB,D5]
  have F:r.rd=t.flatMap (SK h):=by
   unfold VB at u;split at u
   ·grind
   ·simp at u
   ·rename_i m C D;cases x:E.mode f with
    |pure=>exact absurd x C
    |heap=>exact absurd x D
    |view=>grind
    |fresh=>grind
  grind [Po]
 have s:∀(y:DL) (g:K') (c:P'),Wv h y=some (g,c)->∀id∈c,∃b,h id=some b:=by
  intro y g c w id l;unfold Wv at w
  grind
 cases A with
 |call f=>exact pure f B a
 |Sd=>
  simp only[We,Rc]at a
  grind
 |load j q=>
  simp only[We,PR]at a;split at a
  ·grind [Va.pure]
  ·rename_i id XM i G
   grind [QL]
  ·simp at a
 |store q=>
  simp only[We,QC]at a;split at a
  ·split at a
   ·grind [PE]
   ·simp at a
  ·simp at a
 |P1 q=>
  simp only[We,VV]at a;split at a
  ·grind [Va.pure]
  ·grind
  ·simp at a
 |slice q lo J=>
  simp only[We,QD]at a;split at a
  ·split at a
   ·rename_i d M v;simp only[Za]at a;subst a;intro id l;unfold WA at v
    grind
   ·simp at a
  ·simp at a
 |append e q bytes=>
  simp only[We,Vh]at a;split at a
  ·split at a
   ·rename_i g c w;obtain⟨_,a⟩:=Wg a;split at a
    ·simp only[WZ]at a
     grind
    ·split at a
     ·rename_i b I;rw[YY]at a;split at a
      ·grind [Tv]
      grind [Ry]
     ·simp at a
    ·simp at a
   ·simp at a
  ·simp at a
 |clear z=>
  simp only[We,QE]at a
  grind
 |copy q=>
  simp only[We,PT]at a;split at a
  ·grind [O4]
  ·simp at a
 |lookup p k j z L=>
  simp only[We,U9]at a;split at a
  ·split at a
   ·grind [aA]
   ·simp at a
  ·simp at a
 |mapUpdate p k j H=>
  simp only[We,VA]at a;split at a
  ·split at a
   ·grind [gy]
   ·simp at a
  ·simp at a
 |OP=>
  simp only[We,TE]at a
  grind
 |_=>
  have o:r.rd=[]:=by
   simp only[We,ao,S1,ak,bH,QF,PU,Uc,iR,au,Uo,UJ,iQ,ar,Uv,Ro,Ui,Sr,PS,S3,Oa,aq,Uu,Qg,U8,T8,Pg,YY]at a
   (repeat' split at a)<;>simp only[Za,reduceCtorEq]at a<;>subst a<;>rfl
  rw[o];simp
theorem NV:∀(l:F') (m:Nat),Si m l=true->∀(i:Nat) (a:Xy),l[i]? =some a->∀k,k<m+i->k∈a.after
 |[],_,_,i,a,hi=>by simp at hi
 |o::os,m,h,i,a,hi=>by
  simp only[Si,Zs]at h;intro k b;cases i with
  |zero=>grind [P8]
  |succ i=>exact NV os (m+1) h.2 i a (by simpa using hi) k (by omega)
def JX (P:Program)(nt:Nat)(ops:Array Oper)(ys:F'):Prop:=
 ∀(i:Nat) (xo:Xy),ys[i]? =some xo->∃o xo0,ops[i]? =some o/\UL P nt ops.toList o=some xo0/\xo.dst=xo0.dst/\xo.op=xo0.op/\xo.args=xo0.args/\xo.guard=xo0.guard/\(∀k∈xo0.after,k∈xo.after)/\
  (∀k∈xo.after,k∈xo0.after\/∃j∈xo0.after,∃p,ys[j]? =some p/\k∈p.after)
theorem GQ {P:Program}{E:Xa}(hE:Ww P E){F:Fence}(hF:Un F){n lo base nt:Nat}{O:BS}{h:Array Oper}{d:F'}(a7:d.length=h.size)(t:JX P nt h d)(X:vQ d)
  {m:Nat} (I:∀(i:Nat) (x:Xy),m<=i->d[i]? =some x->∀k,k<i->k∈x.after) {Q:Exit->Act->World->Prop} {w:World} {μ:Nat->Nat} {hh:HF} {s':St}
  (hk:∀W w' μ',X3 w' O μ' (Xj s'.H)->Wz lo nt O w' μ' (Xj s'.H) W s'.T->Wy O w μ hh w' μ' (Xj s'.H)->Q .normal W w'):
  ∀(c k:Nat) (b:Array Bool) (a:Act) (w':World) (μ':Nat->Nat) (s:St),b.size=d.length->GN d.length b<=c->m<=k->k<=d.length->(∀i,b.getD i false=true↔i<k)->UY E base (d.drop k) s=some s'->
   X3 w' O μ' (Xj s.H)->Wz lo nt O w' μ' (Xj s.H) a s.T->Wy O w μ hh w' μ' (Xj s.H)->wpAnyIn F n P .any h Q c b a w':=by
 intro c;induction c with
 |zero=>
  intro k b a w' μ' s u D N M K g hI C A;have a0:=qk _ _ (Nat.le_zero.1 D);have a6:k=d.length:=by
   rcases Yx k d.length with h1|h1
   ·grind
   ·omega
  grind [UY,tw]
 |succ c ih=>
  intro k b a w' μ' s u D N M K g hI C A;rcases Yx k d.length with hlt|z
  ·have G:d[k]? =some d[k]:=Zg hlt;rw[Z5 hlt]at g;generalize d[k]=x at G g;simp only[UY]at g;cases r:Vp E base true x s with
   |none=>simp[r]at g
   |some q=>
   obtain⟨s2,rd,wr⟩:=q;simp only[r]at g;have R:b.getD k false=false:=by
    grind
   refine⟨fun hr=> ?_,fun i hi=> ?_⟩
   ·exfalso;obtain⟨o,p,J,v,_,_,_,_,Y,_⟩:=t k _ G;have a1:k∈Region.ready .any h b:=by
     rw[Pa];refine⟨by omega,by grind,fun o' B e he hb=> ?_⟩;rw[J]at B;cases B;have a3:=(Th v).2.2.2.2;have :e.on∈p.after:=by grind
     exact(K _).2 (X.back k _ G _ (Y _ this))
    grind
   ·rw[Pa]at hi;obtain⟨a5,S,a4⟩:=hi;rw[QK b i (by omega)]at S;have l:d[i]? =some (d[i]'(by omega)):=Zg (by omega);generalize d[i]'(by omega)=xi at l;have L:i=k:=by
     have z:k<=i:=by
      grind
     rcases Nat.eq_or_lt_of_le z with e|h1
     ·exact e.symm
     ·exfalso;obtain⟨o,p,J,v,_,_,_,_,_,Z⟩:=t i xi l;have c5:=(Th v).2.2.2.2;have y:∀q∈p.after,b.getD q false=true:=by
       grind
      rcases Z k (I i xi (by omega) l k h1)with h2|⟨j,hj,q,hq,hkq⟩
      ·grind
      ·have h3:=(K j).1 (y j hj);have h4:=X.back j q hq k hkq;omega
    subst L;rw[G]at l;cases l;obtain⟨o,p,J,v,g1,g2,g3,g4,Y,Z⟩:=t i x G;have c1:=(Th v).1;rw[cc E base true x p _ g1 g2 g3 g4]at r;unfold wpOpIn;rw[J];simp only[];have:=dU E hE base true h.toList v (next:=wpAnyIn F n P .any h Q c (b.setIfInBounds i true)) (Q:=Q) r hI C fun a2 w2 V k1 k2 k3=>by
     refine ih (i+1) _ a2 w2 V s2 (by simpa using u) ?_ (by omega) (by omega) (fun q=> ?_) g k1 k2 (A.trans k3)
     ·have:=vZ d.length b i hlt u R;omega
     grind [Qd]
    simp only[Array.toArray_toList]at this;rcases this with⟨U,t2⟩|⟨U,t2⟩
    ·rw[if_pos U];grind [bG,SD]
    ·rw[if_neg (by rw[U];simp)];exact⟨fun f _=>hF.fn f,t2⟩
  grind [UY,tw]
theorem xK {P:Program}{E:Xa}(hE:Ww P E)(d9:P.follows .mixedOrders=true):Nj P E:=by
 intro F n hF O lo base nt h4 u os xs f9 hm d6 a3 f7 s s1 s' hd b1 a w μ hI a9 Q y;obtain⟨c8,b3⟩:=vH os;generalize WN [] os=ys at c8 b3 d6 a3;obtain⟨S,Ft,R,d4,a1,c9⟩:=Eu E base xs s s1 hd;have b2:=Fu ys d6;have Y:∀(i:Nat) (g:Xy),xs[i]? =some g->ys[i]? =some g:=fun i g m=>by
  grind
 have f8:∀(i:Nat) (g:Xy),i<xs.length->ys[i]? =some g->xs[i]? =some g:=fun i g hl m=>by
  grind
 have fl:vQ xs:=⟨fun i g m=>b2.back i g (Y i g m),fun i j D xj d m hj=>b2.uniq i j D xj d (Y _ _ m) (Y _ _ hj),fun i j D xj d m hj=>b2.order i j D xj d (Y _ _ m) (Y _ _ hj)⟩;have tc:=AQ R c9;obtain⟨h3,f6⟩:=TG hm;have d2:ys.length=u.size:=by grind
 have a6:xs.length<=ys.length:=by rw[a3];simp
 have J:ys.drop xs.length=f9:=by rw[a3];simp
 have c0:∀(i:Nat) (g:Xy),xs.length<=i->ys[i]? =some g->∀k,k<i->k∈g.after:=fun i g hl m k y=>by
  grind [NV]
 have d3:JX P nt u ys:=by
  intro i g m
  grind
 refine wpIn_region_any d9 ?_;have A:=GQ (n:=n) (lo:=lo) (base:=base) (O:=O) (Q:=Q) (w:=w) (μ:=μ) (hh:=Xj s.H) (s':=s') hE hF d2 d3 b2 c0 y;have e6:∀(l:Nat) (c:Array Bool) (a:Act) (w':World) (μ':Nat->Nat) (h:HF),c.size=ys.length->GN ys.length c<=l->(∀i,c.getD i false=true->i<xs.length)->
   Part lo nt O xs S Ft (fun i=>c.getD i false=true) w' μ' h a->
   (∀(i:Nat) (D:Xy),xs[i]? =some D->c.getD i false=true->(∀k∈D.after,c.getD k false=true)/\Xl E D.op=false)->
   Wy O w μ (Xj s.H) w' μ' h->wpAnyIn F n P .any u Q l c a w':=by
  intro l;induction l with
  |zero=>
   intro c a w' μ' h X b4 c7 p a4 K;have B:=qk _ _ (Nat.le_zero.1 b4);have I:∀i,i<xs.length->c.getD i false=true:=fun i m=>B i (by omega)
   obtain⟨h1,h2⟩:=p.full R fl tc xs.length (Ze _) (fun i m=>⟨fun _=>m,fun _=>I i m⟩) fun k Z y U=>(a4 k Z U (I k y)).2
   subst h2;rw[a1]at h1 K;exact A 0 xs.length c a w' μ' s1 X b4 (Ze _) a6 (fun i=>⟨c7 i,I i⟩) (by rw[J];exact b1) (by have:=p.inv;rwa[a1]at this) h1 K
  |succ l ih=>
   intro c a w' μ' h X b4 c7 p a4 K;have h0:∀(i:Nat) (D:Xy),xs[i]? =some D->i<xs.length:=fun i D m=>(Zf.1 m).1
   have N:∀(i:Nat) (D:Xy),xs[i]? =some D->c.getD i false=true->∀k∈D.after,c.getD k false=true:=fun i D m G=>(a4 i D m G).1
   rcases ou xs.length (fun i=>c.getD i false)with B|⟨i0,hi0,hu0,hmin⟩
   ·obtain⟨g1,g2⟩:=p.full R fl tc xs.length (Ze _) (fun i m=>⟨fun _=>m,fun _=>B i m⟩) fun k Z y U=>(a4 k Z U (B k y)).2
    subst g2;rw[a1]at g1 K;exact A _ xs.length c a w' μ' s1 X b4 (Ze _) a6 (fun i=>⟨c7 i,B i⟩) (by rw[J];exact b1) (by have:=p.inv;rwa[a1]at this) g1 K
   refine⟨fun hr=> ?_,fun i m=> ?_⟩
   ·exfalso;have U:xs[i0]? =some xs[i0]:=Zg hi0;obtain⟨o,M,ho,hc,_,_,_,_,g5,_⟩:=d3 i0 _ (Y _ _ U);have g0:i0∈Region.ready .any u c:=by
     rw[Pa];refine⟨by omega,by grind,fun o' e0 e he hb=> ?_⟩;rw[ho]at e0;cases e0;have W:=(Th hc).2.2.2.2;have :e.on∈M.after:=by grind
     exact hmin _ (fl.back i0 _ U _ (g5 _ this))
    grind
   ·rw[Pa]at m;obtain⟨g9,d0,g8⟩:=m;rw[QK c i (by omega)]at d0;have e5:i<ys.length:=by omega
    have V:ys[i]? =some ys[i]:=Zg e5;generalize ys[i]=g at V;obtain⟨o,M,ho,hc,g1,g2,g3,g4,g5,g6⟩:=d3 i g V;obtain⟨c1,c2,c3,c4,c5⟩:=Th hc;have a8:¬c.getD i false=true:=by rw[d0];simp
    have d5:∀k∈M.after,c.getD k false=true:=by
     intro k y;rw[c5]at y;obtain⟨e,he,rfl⟩:=ZM.1 y
     grind
    have W:∀k∈g.after,c.getD k false=true:=by
     intro k y;rcases g6 k y with h1|⟨j,hj,q,hq,hkq⟩
     ·exact d5 k h1
     grind
    have d7:i<xs.length:=by
     rcases Yx i xs.length with h1|h1
     ·exact h1
     ·have:=W i0 (c0 i g h1 V i0 (by omega))
      grind
    have U:=f8 i g d7 V;have b9:GN ys.length (c.setIfInBounds i true)<=l:=by
     have:=vZ ys.length c i e5 X d0;omega
    have b6:∀k,(c.setIfInBounds i true).getD k false=true->k<xs.length:=fun k y=>by
     grind [Qd]
    have a7:∀(a2:Act) (w2:World) (C:Nat->Nat) (h2:HF),Xl E g.op=false->Part lo nt O xs S Ft (fun k=>c.getD k false=true\/k=i) w2 C h2 a2->Wy O w' μ' h w2 C h2->
      wpAnyIn F n P .any u Q l (c.setIfInBounds i true) a2 w2:=by
     intro a2 w2 C h2 hh p2 f5;refine ih _ a2 w2 C h2 (by simpa using X) b9 b6 (uK ?_ p2) ?_ (K.trans f5)
     ·funext k;exact propext (Qd c i k (by omega)).symm
     ·intro k Z b5 G;rcases(Qd c i k (by omega)).1 G with G|rfl
      ·grind [Qd]
      grind [Qd]
    unfold wpOpIn;rw[ho];simp only[];cases hh:Xl E g.op with
    |true=>
     obtain⟨f4,d8⟩:=R.heap i g U hh;obtain⟨f1,f2⟩:=p.full R fl tc i (by omega) (fun k y=>⟨fun G=>by
      grind,fun y=>W k (d8 k y)⟩) fun k Z y b5=>(a4 k Z b5 (W k (d8 k y))).2
     subst f2;have e3:=R.step i g U;rw[hh,cc E base true g M _ g1 g2 g3 g4]at e3;have:=dU E hE base true u.toList hc (next:=wpAnyIn F n P .any u Q l (c.setIfInBounds i true)) (Q:=Q) e3 p.inv f1 fun a2 w2 C k1 k2 k3=>by
      rw[f4,a1]at k1 k2 k3;refine A l xs.length _ a2 w2 C s1 (by simpa using X) b9 (Ze _) a6 (fun q=>⟨b6 q,fun hq=>(Qd c i q (by omega)).2 ?_⟩) (by rw[J];exact b1) k1 k2 (K.trans k3)
      grind
     simp only[Array.toArray_toList]at this;rcases this with⟨t1,t2⟩|⟨t1,t2⟩
     ·rw[if_pos t1];grind [bG,SD]
     ·rw[if_neg (by rw[t1];simp)];exact⟨fun f _=>hF.fn f,t2⟩
    |false=>
     have a9:=p.lE R fl U a8 W N;have f0:∀t b,g.guard=some (t,b)->t∈g.tmps:=by
      grind [Xy.tmps]
     have e9:∀x∈g.args,∀t∈x.tmp,t∈g.tmps:=by
      grind [Xy.tmps]
     have b7:Od nt g.dst=true:=by rw[g1,c3];exact c4
     have e1:o.dst=g.dst:=by rw[g1,c3]
     rcases nL (R.step i g U) hh with⟨s1,s2,s3,s4⟩|⟨s1,vs,r,s2,s3,s4,s5,s6⟩
     ·have hw:=js a9 u.toList o.guard M.guard c2 false (by grind [jt]) o rfl;simp only[Array.toArray_toList]at hw;rw[if_neg (by rw[hw];simp),e1];refine⟨fun f _=>hF.fn f,a7 _ w' μ' h hh ?_ (Wy.refl _ _ _ _)⟩;exact p.add R fl tc U a8 N b7 (.X9 []) undef [] [] (by rw[s2];rfl) s4 (by simp) ⟨[],rfl,.nil⟩ p.inv (Wy.refl _ _ _ _)
     ·have hw:=js a9 u.toList o.guard M.guard c2 true (by grind [jt]) o rfl;simp only[Array.toArray_toList]at hw;rw[if_pos hw];refine bG hF (SD c1) ?_;have z:∀(k:Nat) (Z:Xy),k<i->xs[k]? =some Z->Xl E Z.op=false:=fun k Z y b5=>R.inner b5 (by omega)
      have e2:∀id∈r.rd,id<(S i).H.length:=fun id a5=>by
       obtain⟨b,hb⟩:=FD E base g.op vs _ _ r s3 id a5
       grind [Xj]
      have b8:We E base g.op vs h (S i).H.length=some r:=
       vA E base g.op vs _ r s3 fun id a5=>p.heap R fl tc U a8 W N z id (by rw[s5];exact a5) (e2 id a5)
      have c6:Xv (Vs.eval (V3 (S i).T g.tmps)) M.args=some vs:=by
       rw[<-g3,<-s2];exact iZ _ fun x L=>Ab _ _ x fun t ht=>e9 x L t ht
      have e4:∀q∈r.wr,q.1<(S i).H.length/\∃b,h q.1=some b:=fun q hq=>by
       obtain⟨b,hb⟩:=gh E base g.op vs _ _ r s3 q hq;simp only[Xj]at hb;exact⟨(Zf.1 hb).1,gh E base g.op vs _ _ r b8 q hq⟩
      have d1:r.al≠[]->h (S i).H.length=none:=by
       intro g7;have e7:(S 0).H.length<=(S i).H.length:=R.Qk 0 i (by omega) (by omega) fun k Z _ y L=>z k Z y L
       refine p.none _ e7 fun k y e8 hr=> ?_
       have f3:k≠i:=fun e=>a8 (e▸e8)
       rcases Nat.lt_or_gt_of_ne f3 with hlt'|f0
       ·have:=R.Qk (k+1) i (by omega) (by omega) fun q xq _ hq L=>z q xq hq L
        omega
       ·have h1:(S (i+1)).H.length=(S i).H.length+r.al.length:=by grind [PA,SE]
        have h2:=R.Qk (i+1) k (by omega) (by omega) fun q xq _ hq L=>R.inner L (by omega)
        grind [List.length_pos_iff]
      rw[<-g2]at c1;refine xE E hE base c1 a9 vs c6 r b8 d1 p.inv fun v w2 C k1 k2 k3=> ?_
      rw[e1];exact a7 _ w2 C _ hh (p.add R fl tc U a8 N b7 r.val v r.wr r.al s4 s6 e4 k1 k2 k3) k3
 obtain⟨gm,gi⟩:=Te (w':={w with drawn:=w.drawn+1}) hI (Ze _) (fun _ _=>rfl) rfl rfl rfl;have b0:=a9.mono gm;have a0:∀i,¬((Array.replicate u.size false).getD i false=true):=by
  intro i m;rw[Yc]at m
  grind
 refine e6 u.size (Array.replicate u.size false) a _ μ (Xj s.H) (by simp[d2]) ?_ (fun i G=>absurd G (a0 i)) ?_ (fun i D _ G=>absurd G (a0 i)) gm
 ·rw[<-d2];exact Zx (List.length_filter_le _ _) (by simp)
 ·refine⟨b0.nb,b0.sz,fun i g _ G=>absurd G (a0 i),fun t _ d hd=>b0.slot t d (by rw[<-d4];exact hd),gi,fun i _ G=>absurd G (a0 i),fun id _ _=>by rw[d4],fun k _ G=>absurd G (a0 k),fun id a5 _=> ?_⟩
  grind [Xj]
end Go.Ev
