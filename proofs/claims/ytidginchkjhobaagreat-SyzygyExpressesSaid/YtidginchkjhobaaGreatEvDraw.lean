/- Regions that draw their order, first part: an operation looks only at what it says; the run in the order of the text. -/
import Derived.Test.YtidginchkjhobaaGreatEvFun
namespace Go.Ev
open Go.RowKit
theorem aM {h j}:∀k l v,XG k h l=some v->(∀id∈Vt k h l,j id=h id)->XG k j l=some v/\Vt k j l=Vt k h l:=by
 have t:∀(k:Nat),(∀(l:DL) (v:PL),XG k h l=some v->(∀id∈Vt k h l,j id=h id)->XG k j l=some v/\Vt k j l=Vt k h l)->
   ∀(o:Y') (n:N'),Xw (XG k h) o=some n->(∀id∈o.flatMap (Vt k h),j id=h id)->Xw (XG k j) o=some n/\o.flatMap (Vt k j)=o.flatMap (Vt k h):=by
  intro k C o;induction o with
  |nil=>intro n g _;exact⟨by rw[jU g];rfl,rfl⟩
  |cons l o J=>
   intro n g d;obtain⟨p,O,N,H,rfl⟩:=map_cons g
   grind [Xw]
 intro k;induction k with
 |zero=>
  intro l v m _;cases l with
  |p l=>grind [XG,Vt]
  |own=>simp[XG]at m
  |ptr=>simp[XG]at m
  |fn=>simp[XG]at m
  |mp=>simp[XG]at m
 |succ k C=>
  intro l v m d;cases l with
  |p l=>grind [XG,Vt]
  |mp _=>simp[XG]at m
  |fn f B=>
   grind [XG,Vt]
  |own id XW u A=>
   simp only[XG]at m;cases q:h id with
   |none=>simp[q]at m
   |some b=>
   simp only[q]at m;simp only[Vt,q,Zk]at d;have y:j id=some b:=by grind
   obtain⟨r,a⟩:=Wq m;cases g:Xw (Xw (XG k h)) ((b.ch.drop u).take A)with
   |none=>simp[g]at a
   |some w=>
   simp only[g,Zb]at a;subst a;have x:∀(ch:K') (w:Z'),Xw (Xw (XG k h)) ch=some w->(∀id∈ch.flatMap (fun c=>c.flatMap (Vt k h)),j id=h id)->
     Xw (Xw (XG k j)) ch=some w/\(ch.flatMap fun c=>c.flatMap (Vt k j))=ch.flatMap fun c=>c.flatMap (Vt k h):=by
    intro ch;induction ch with
    |nil=>intro w g _;exact⟨by rw[jU g];rfl,rfl⟩
    |cons c ch I=>
     intro w g M;obtain⟨e,D,L,G,rfl⟩:=map_cons g
     grind [Xw]
   obtain⟨E,F⟩:=x _ _ g fun id s=>d id (.inr s)
   simp_all [XG,Vt]
  |ptr id XW i u=>
   simp only[XG]at m;cases q:h id with
   |none=>simp[q]at m
   |some b=>
   simp only[q]at m;obtain⟨r,a⟩:=Wq m;cases z:b.ch[i]? with
   |none=>simp[z]at a
   |some c=>
   simp only[z]at a;simp only[Vt,q,z,Zk]at d;have y:j id=some b:=by grind
   cases g:Xw (XG k h) (c.drop u)with
   |none=>simp[g]at a
   |some K=>
   simp only[g,Zb]at a;subst a;obtain⟨E,F⟩:=t k C _ _ g fun id s=>d id (.inr s)
   simp_all [XG,Vt]
theorem kG {h g}(d)(p)(c:XX h d=some p)(b:∀id∈Rj h d,g id=h id):XX g d=some p/\Rj g d=Rj h d:=by
 cases d with
 |Wd _=>simp[XX]at c
 |one l=>
  simp only[XX]at c;cases f:XG WQ h l with
  |none=>simp[f]at c
  |some r=>
  simp only[f,Zb]at c;subst c;obtain⟨j,k⟩:=aM _ l r f b;exact⟨by simp[XX,j],k⟩
 |agg n=>
  simp only[XX]at c;cases f:Xw (XG WQ h) n with
  |none=>simp[f]at c
  |some a=>
  simp only[f,Zb]at c;subst c;have i:∀(e:Y') (a:N'),Xw (XG WQ h) e=some a->(∀id∈e.flatMap (Vt WQ h),g id=h id)->Xw (XG WQ g) e=some a/\e.flatMap (Vt WQ g)=e.flatMap (Vt WQ h):=by
   intro e;induction e with
   |nil=>intro a m _;exact⟨by rw[jU m];rfl,rfl⟩
   |cons l e q=>
    intro a m b;obtain⟨p,t,s,o,rfl⟩:=map_cons m
    grind [aM,Xw]
  obtain⟨j,k⟩:=i n a f b;exact⟨by simp[XX,j],k⟩
theorem Ny {h c}(l)(b)(a)(e:WH h l=some (b,a))(d:∀id∈a,c id=h id):WH c l=some (b,a):=by
 unfold WH at e⊢
 grind
theorem filterMap_eq {a c:Type}{f g:a->Option c}:∀(l:List a),(∀x∈l,f x=g x)->l.filterMap f=l.filterMap g
 |[],_=>rfl
 |x::xs,h=>by
  rw[List.filterMap_cons,List.filterMap_cons,h x (by simp),filterMap_eq xs fun y b=>h y (by simp[b])]
theorem cZ (E:Xa){h d:HF}(f:Nat)(g:X')(r:Vk)(c:VL E h f g=some r)(a:∀id∈r.rd,d id=h id):VL E d f g=some r:=by
 unfold VL at c⊢;split at c
 ·cases j:Xw (XX h) g with
  |none=>simp[j]at c
  |some e=>
  simp only[j]at c;cases n:E.pure f e with
  |none=>simp[n]at c
  |some t=>
  simp only[n]at c;have k:r.rd=g.flatMap (Rj h):=by
   grind
  rw[k]at a;have o:∀(b:X') (e:List PV),Xw (XX h) b=some e->(∀id∈b.flatMap (Rj h),d id=h id)->Xw (XX d) b=some e/\b.flatMap (Rj d)=b.flatMap (Rj h):=by
   intro b;induction b with
   |nil=>intro m i _;exact⟨by rw[jU i];rfl,rfl⟩
   |cons l b s=>
    intro m i a;obtain⟨p,e,j,q,rfl⟩:=map_cons i
    grind [kG,Xw]
  grind [filterMap_eq]
 ·simp at c
 grind [vI]
theorem xD (E)(base)(K)(H){h G}(n)(r)(a:Wf E base K H h n=some r)(j:∀id∈r.rd,G id=h id):Wf E base K H G n=some r:=by
 cases K with
 |call f=>exact cZ E f H r a j
 |Sw=>
  simp only[Wf,Rr]at a⊢
  grind [cZ]
 |load s o=>
  simp only[Wf,Of]at a⊢;split at a
  ·exact a
  ·rename_i id XW i F
   grind [QY]
  ·simp at a
 |store o=>
  simp only[Wf,QN]at a⊢;split at a
  ·rename_i id XW i F x
   grind [P4]
  ·simp at a
 |Ov o=>
  simp only[Wf,VX]at a⊢;split at a
  ·exact a
  ·grind
  ·simp at a
 |slice o lo M=>
  simp only[Wf,QO]at a⊢;cases L:Ub lo M H with
  |none=>simp[L]at a
  |some q=>
  obtain⟨x,l,u⟩:=q;simp only[L]at a⊢;cases m:WN o h x l u with
  |none=>simp[m]at a
  |some P=>
  obtain⟨d,Q⟩:=P;simp only[m,Zb]at a;subst a;have :WN o G x l u=some (d,Q):=by
   unfold WN at m⊢
   grind
  simp only[this]
 |append e o bytes=>
  simp only[Wf,Vs]at a⊢;split at a
  ·rename_i x y;cases p:WH h y with
   |none=>simp[p]at a
   |some q=>
   obtain⟨D,g⟩:=q;simp only[p]at a;obtain⟨t,c⟩:=Wq a;have B:∀id∈g,id∈r.rd:=by
    split at c
    ·simp only[W9]at c
     grind
    ·split at c
     ·rw[YJ]at c;split at c
      ·grind [TE]
      grind [RQ]
     ·simp at c
    ·simp at c
   have I:=Ny y D g p fun id w=>j id (B id w)
   simp only[I,t,cond_true];split at c
   ·exact c
   ·rename_i id XW J;cases v:h id with
    |none=>simp[v]at c
    |some b=>
    simp only[v]at c;have w:G id=h id:=by
     have A:=c;rw[YJ]at A;split at A
     ·grind [TE]
     grind [RQ]
    grind
   ·simp at c
  ·simp at a
 |clear z=>
  simp only[Wf,QQ]at a⊢
  grind
 |copy o=>
  simp only[Wf,Oh]at a⊢;split at a
  ·rename_i id XW F J y;cases v:h id with
   |none=>simp[v]at a
   |some b=>
   simp only[v]at a;cases p:WH h y with
   |none=>simp[p]at a
   |some q=>
   obtain⟨D,g⟩:=q;simp only[p]at a;have N:r.rd=id::g:=by
    grind [Nw]
   grind [Ny]
  ·simp at a
 |lookup C k s z S=>
  simp only[Wf,Tl]at a⊢;split at a
  ·rename_i id O
   grind [bn]
  ·simp at a
 |mapUpdate C k s R=>
  simp only[Wf,VK]at a⊢;split at a
  ·rename_i id O x
   grind [iG]
  ·simp at a
 |Ng=>
  simp only[Wf,TR]at a⊢
  grind
 |_=>exact a
structure vE (E:Xa)(base:Nat)(xs:O')(S:Nat->St)(F:Nat->QK):Prop where
 step:∀i xo,xs[i]? =some xo->Vz E base (Xm E xo.op) xo (S i)=some (S (i+1),(F i).rd,(F i).wr)
 uF:∀i xo,xs[i]? =some xo->(F i).i=i/\(F i).after=xo.after/\(F i).lo=(S i).H.length/\(F i).hi=(S (i+1)).H.length
 heap:∀i xo,xs[i]? =some xo->Xm E xo.op=true->i+1=xs.length/\∀k,k<i->k∈xo.after
theorem OC (l):∀i,SX l i=true->∀k,k<i->k∈l
 |0,_,k,hk=>by omega
 |i+1,h,k,hk=>by
  simp only[SX,Zs]at h;by_cases e:k=i
  ·subst e;simpa using h.1
  ·exact OC l i h.2 k (by omega)
theorem Dc (E)(base):∀xs i s d c,Tt E base i xs s=some (d,c)->
  ∃(S:Nat->St) (F:Nat->QK),S 0=s/\S xs.length=d/\c=(List.range xs.length).map F/\
   (∀k a,xs[k]? =some a->Vz E base (Xm E a.op) a (S k)=some (S (k+1),(F k).rd,(F k).wr))/\
   (∀k a,xs[k]? =some a->(F k).i=i+k/\(F k).after=a.after/\(F k).lo=(S k).H.length/\(F k).hi=(S (k+1)).H.length)/\
   (∀k a,xs[k]? =some a->Xm E a.op=true->k+1=xs.length/\∀q,q<i+k->q∈a.after)
 |[],i,s,d,c,h=>by
  simp only[Tt,Zb,Zq]at h;obtain⟨rfl,rfl⟩:=h;exact⟨fun _=>s,fun _=>⟨0,[],[],[],0,0⟩,rfl,rfl,rfl,fun k a b=>by simp at b,fun k a b=>by simp at b,fun k a b=>by simp at b⟩
 |o::os,i,s,d,c,h=>by
  simp only[Tt]at h;cases j:(Xm E o.op&& !(os.isEmpty&&SX o.after i))with
  |true=>rw[j]at h;simp at h
  |false=>
  rw[j,cond_false]at h;cases l:Vz E base (Xm E o.op) o s with
  |none=>simp[l]at h
  |some q=>
  obtain⟨g,v,x⟩:=q;simp only[l]at h;cases f:Tt E base (i+1) os g with
  |none=>simp[f]at h
  |some u=>
  obtain⟨w,e⟩:=u;simp only[f,Zb,Zq]at h;obtain⟨rfl,rfl⟩:=h;obtain⟨S,F,h0,r,m,t,n,p⟩:=Dc E base os (i+1) g w e f;refine⟨fun k=>match k with |0=>s|k+1=>S k,fun k=>match k with |0=>⟨i,v,x,o.after,s.H.length,g.H.length⟩|k+1=>F k,rfl,r,?_,?_,?_,?_⟩
  ·simp_all [List.range_succ_eq_map]
  ·grind
  ·grind
  ·intro k a b y;cases k with
   |zero=>
    grind [OC]
   |succ k=>
    grind
theorem GD (E)(base)(xs)(s g)(h:TK E base xs s=some g):
  ∃S F,vE E base xs S F/\S 0=s/\S xs.length=g/\∀i j,i<xs.length->j<xs.length->i≠j->Nn (F i) (F j)=true\/((F i).wr=[]/\(F i).lo=(F i).hi):=by
 unfold TK at h;cases a:Tt E base 0 xs s with
 |none=>simp[a]at h
 |some q=>
 obtain⟨p,c⟩:=q;simp only[a]at h;obtain⟨d,rfl⟩:=X4 h;obtain⟨S,F,h0,o,l,b,m,n⟩:=Dc E base xs 0 s p c a;refine⟨S,F,⟨b,fun i r e=>by grind,fun i r e t=>by grind⟩,h0,o,fun i j e u _=> ?_⟩;unfold R9 at d;rw[ZH]at d;have f:∀k,k<xs.length->F k∈c:=fun k v=>by grind
 grind [Zl]
theorem xd {E}{a}{f}{d}{s b}{c e}(h:VA E a f d s=some (b,c,e)):∃v,b.T=O2 s.T a v:=by
 unfold VA at h
 grind [TA]
theorem I0 {E}{base}{a}{s b}{c d}(h:Vz E base (Xm E a.op) a s=some (b,c,d)):∃v,b.T=O2 s.T a.dst v:=by
 unfold Vz at h;split at h
 ·simp at h
 ·grind [TA]
 ·split at h
  ·simp at h
  ·simp only[YJ]at h;split at h
   ·unfold PG at h
    grind [xd]
   ·split at h
    ·simp only[PH,bL,TA,dN,lH,Zb,Zq]at h;grind
    ·simp at h
theorem pj {E}{base}{a}{s c}{b e}(h:Vz E base (Xm E a.op) a s=some (c,b,e))(g:Xm E a.op=false):
  (U7 s.T a.guard=some false/\c=⟨O2 s.T a.dst (.Wd []),s.H⟩/\b=[]/\e=[])\/
  (U7 s.T a.guard=some true/\∃d r,Xw (VB.eval s.T) a.args=some d/\Wf E base a.op d (Xj s.H) s.H.length=some r/\c=⟨O2 s.T a.dst r.val,NI (Uh s.H r.wr) r.al⟩/\b=r.rd/\e=r.wr.map (·.1)):=by
 unfold Vz at h;split at h
 ·simp at h
 ·grind [TA]
 ·rename_i f;right;refine⟨f,?_⟩;split at h
  ·simp at h
  ·rename_i d i;rw[g]at h;simp only[Bool.false_and,cond_false]at h;split at h
   ·rename_i r j;simp only[PH,bL,TA,dN,lH,Zb,Zq]at h;grind
   ·simp at h
theorem BE (T)(a)(v)(t)(h:a≠some t):Xi (O2 T a v) t=Xi T t:=by
 cases a with
 |none=>rfl
 |some d=>
  simp_all [O2,U2]
section
variable {E:Xa}{base:Nat}{xs:O'}{S:Nat->St}{F:Nat->QK}
theorem vE.Po (R:vE E base xs S F)(t a):∀b,a<=b->b<=xs.length->(∀k c,a<=k->k<b->xs[k]? =some c->c.dst≠some t)->Xi (S b).T t=Xi (S a).T t:=by
 intro b;induction b with
 |zero=>grind
 |succ b j=>
  intro f g h;by_cases e:a=b+1
  ·rw[e]
  ·have d:xs[b]? =some xs[b]:=Zd (by omega);obtain⟨v,i⟩:=I0 (R.step b _ d)
   grind [BE]
theorem mN (H a)(id)(h:id<H.length):Xj (NI H a) id=Xj H id:=by grind [PX,Xj]
theorem SV:∀(a:List (Nat×Xx)) H,(Uh H a).length=H.length
 |[],_=>rfl
 |(id,b)::a,H=>by simp only[Uh];rw[SV a];simp
theorem gz:∀(a:List (Nat×Xx)) H id,id∉a.map (·.1)->Xj (Uh H a) id=Xj H id
 |[],_,_,_=>rfl
 |(i,b)::a,H,id,h=>by
  simp only[Zt,Zk,not_or]at h;simp only[Uh];rw[gz a _ id h.2]
  grind [Xj]
theorem vL {b}{s a}{e c}(h:Vz E base (Xm E b.op) b s=some (a,e,c))(d:Xm E b.op=false):s.H.length<=a.H.length/\∀id,id<s.H.length->id∉c->Xj a.H id=Xj s.H id:=by
 rcases pj h d with⟨_,rfl,_,_⟩|⟨_,f,r,_,_,rfl,_,rfl⟩
 ·grind
 grind [PX,SV,mN,gz]
theorem vE.NB (R:vE E base xs S F)(id a)(l:id<(S a).H.length):∀b,a<=b->b<=xs.length->(∀k d,a<=k->k<b->xs[k]? =some d->Xm E d.op=false/\id∉(F k).wr)->Xj (S b).H id=Xj (S a).H id/\id<(S b).H.length:=by
 intro b;induction b with
 |zero=>grind
 |succ b o=>
  intro i j g;by_cases e:a=b+1
  ·grind
  ·have c:xs[b]? =some xs[b]:=Zd (by omega);obtain⟨f,h⟩:=g b _ (by omega) (by omega) c;obtain⟨m,n⟩:=vL (R.step b _ c) f
   grind
theorem vE.Qv (R:vE E base xs S F)(a):∀b,a<=b->b<=xs.length->(∀k d,a<=k->k<b->xs[k]? =some d->Xm E d.op=false)->(S a).H.length<=(S b).H.length:=by
 intro b;induction b with
 |zero=>grind
 |succ b j=>
  intro g h f;by_cases e:a=b+1
  ·grind
  ·have c:xs[b]? =some xs[b]:=Zd (by omega);obtain⟨i,_⟩:=vL (R.step b _ c) (f b _ (by omega) (by omega) c)
   grind
theorem Il (S:Nat->St)(id:Nat)(h0:(S 0).H.length<=id):∀(b:Nat),id<(S b).H.length->∃k,k<b/\(S k).H.length<=id/\id<(S (k+1)).H.length:=by
 intro b;induction b with
 |zero=>intro h;omega
 |succ b a=>
  grind
end
theorem oH:∀(b done:O'),∃a,W1 done b=done++a/\a.length=b.length/\∀(i:Nat) (y:Xz),a[i]? =some y->∃o,b[i]? =some o/\y.dst=o.dst/\y.op=o.op/\y.args=o.args/\y.guard=o.guard/\(∀k∈o.after,k∈y.after)/\
  ∀k∈y.after,k∈o.after\/∃j∈o.after,∃p,(done++a)[j]? =some p/\k∈p.after
 |[],done=>⟨[],by simp[W1],rfl,fun i y h=>by simp at h⟩
 |o::b,done=>by
  obtain⟨a,f,e,g⟩:=oH b (done++[{o with after:=dd (o.after++o.after.flatMap (iw done))}]);refine⟨{o with after:=dd (o.after++o.after.flatMap (iw done))}::a,?_,by simp[e],fun i y c=> ?_⟩
  ·grind [W1]
  ·cases i with
   |zero=>
    simp at c;subst c;refine⟨o,rfl,rfl,rfl,rfl,rfl,fun k d=>(wI _ _).2 (ZS.2 (.inl d)),fun k d=> ?_⟩
    grind [wI,iw]
   |succ i=>
    grind
theorem xK (a:O'):(W1 [] a).length=a.length/\∀(i:Nat) (y:Xz),(W1 [] a)[i]? =some y->∃o,a[i]? =some o/\y.dst=o.dst/\y.op=o.op/\y.args=o.args/\y.guard=o.guard/\(∀k∈o.after,k∈y.after)/\
  ∀k∈y.after,k∈o.after\/∃j∈o.after,∃p,(W1 [] a)[j]? =some p/\k∈p.after:=by
 obtain⟨e,b,c,d⟩:=oH a []
 grind
theorem Ts (T):∀a t,t∈a->Xi (V8 T a) t=Xi T t
 |[],t,h=>by simp at h
 |k::a,t,h=>by
  simp only[V8];cases c:Xi T k with
  |none=>
   rcases Zk.1 h with rfl|h1
   ·by_cases f:t∈a
    ·exact Ts T a t f
    ·simp only[];cases g:Xi (V8 T a) t with
     |none=>rw[c]
     |some d=>grind [Qy]
   ·exact Ts T a t h1
  |some v=>
   simp only[U2];by_cases e:k=t
   ·grind
   ·rw[if_neg e];exact Ts T a t ((Zk.1 h).resolve_left fun b=>e b.symm)
theorem BN (T)(a)(x:VB)(h:∀t∈x.tmp,t∈a):x.eval (V8 T a)=x.eval T:=by
 cases x with
 |t n=>grind [VB.eval,Ts,VB.tmp]
 |c v=>rfl
theorem jS {a c:Type}{f g:a->Option c}:∀(l:List a),(∀x∈l,f x=g x)->Xw f l=Xw g l
 |[],_=>rfl
 |x::xs,h=>by simp only[Xw];rw[h x (by simp),jS xs fun y b=>h y (by simp[b])]
theorem kB (T)(a)(g:Option (Nat×Bool))(h:∀t b,g=some (t,b)->t∈a):U7 (V8 T a) g=U7 T g:=by
 cases g with
 |none=>rfl
 |some q=>obtain⟨t,b⟩:=q;simp only[U7];grind [Ts]
structure xT (xs:O'):Prop where
 back:∀(i:Nat) (xo:Xz),xs[i]? =some xo->∀j∈xo.after,j<i
 uniq:∀(i j:Nat) (xi xj:Xz) (d:Nat),xs[i]? =some xi->xs[j]? =some xj->i≠j->xj.dst=some d->xi.dst≠some d
 order:∀(i j:Nat) (xi xj:Xz) (d:Nat),xs[i]? =some xi->xs[j]? =some xj->i≠j->xj.dst=some d->d∈xi.tmps->j∈xi.after\/i∈xj.after
theorem Hz (xs)(h:kH xs=true):xT xs:=by
 unfold kH at h;rw[ZH]at h;have n:∀(i:Nat) (b:Xz),xs[i]? =some b->(b,i)∈xs.zipIdx:=fun i b g=>by
  grind
 have g:∀(i:Nat) (b:Xz),xs[i]? =some b->(b.after.all (fun j=>Nat.blt j i)=true)/\∀(j:Nat) (f:Xz),xs[j]? =some f->i≠j->∀d,f.dst=some d->(b.dst≠some d)/\(d∈b.tmps->j∈b.after\/i∈f.after):=by
  grind
 exact⟨fun i b a j m=>QG (ZH.1 (g i b a).1 j m),fun i j l f d a e c k=>((g i l a).2 j f e c d k).1,fun i j l f d a e c k=>((g i l a).2 j f e c d k).2⟩
structure Touch (xs:O')(F:Nat->QK):Prop where
 wr:∀(i j:Nat) (xi:Xz),xs[i]? =some xi->j<xs.length->i≠j->∀id∈(F i).wr,id∉(F j).wr/\(id∈(F j).rd->j∈xi.after)
 made:∀(i j:Nat) (xj:Xz),i<xs.length->xs[j]? =some xj->i≠j->∀id,(F i).lo<=id->id<(F i).hi->(id∈(F j).rd\/id∈(F j).wr)->i∈xj.after
theorem CE {E}{base}{xs}{S}{F}(R:vE E base xs S F)(h:∀i j,i<xs.length->j<xs.length->i≠j->Nn (F i) (F j)=true\/((F i).wr=[]/\(F i).lo=(F i).hi)):Touch xs F:=by
 have c:∀(i:Nat) (p:Xz),xs[i]? =some p->i<xs.length:=fun i p b=>(Zg.1 b).1
 have o:∀i j,i<xs.length->j<xs.length->i≠j->Nn (F i) (F j)=true->
   (∀id∈(F i).wr,id∉(F j).wr/\(id∈(F j).rd->(F j).i∈(F i).after))/\(∀id,(F i).lo<=id->id<(F i).hi->(id∈(F j).rd\/id∈(F j).wr)->(F i).i∈(F j).after):=by
  intro i j b g d a;unfold Nn at a;have e1:=(R.uF i _ (Zd b)).1;have e2:=(R.uF j _ (Zd g)).1;rw[Bool.or_eq_true]at a;rcases a with a|a
  ·grind [Zl]
  ·simp only[Zs,ZH]at a;obtain⟨⟨s,t⟩,u⟩:=a;refine⟨fun id l=> ?_,fun id m k n=> ?_⟩
   ·grind
   ·have v:(Nat.ble (F i).lo id&&Nat.blt id (F i).hi)=true:=by
     simp_all
    grind
 refine⟨fun i j q e g d id l=> ?_,fun i j r b f d id m k n=> ?_⟩
 ·have b:=c i q e;have e1:=(R.uF i _ e).2.1;have e2:=(R.uF j _ (Zd g)).1
  grind
 ·have g:=c j r f;have e1:=(R.uF j _ f).2.1;have e2:=(R.uF i _ (Zd b)).1
  grind
structure Part (lo nt:Nat)(O:BS)(xs:O')(S:Nat->St)(F:Nat->QK)(L:Nat->Prop)(w:World)(μ:Nat->Nat)(h:HF)(a:Act):Prop where
 oy:Marks lo O w μ h a.defers
 sz:a.tmps.size=nt
 done:∀(i:Nat) (xo:Xz),xs[i]? =some xo->L i->∀t,xo.dst=some t->∀d,Xi (S (i+1)).T t=some d->XF w O μ h (a.tmps.getD t undef) d
 rest:∀t,(∀(i:Nat) (xo:Xz),xs[i]? =some xo->L i->xo.dst≠some t)->∀d,Xi (S 0).T t=some d->XF w O μ h (a.tmps.getD t undef) d
 inv:X1 w O μ h
 wr:∀i,i<xs.length->L i->∀id∈(F i).wr,h id=Xj (S (i+1)).H id
 MT:∀id,id<(S 0).H.length->(∀i,i<xs.length->L i->id∉(F i).wr)->h id=Xj (S 0).H id
 new:∀k,k<xs.length->L k->∀id,(S k).H.length<=id->id<(S (k+1)).H.length->(∀i,i<xs.length->L i->id∉(F i).wr)->h id=Xj (S (k+1)).H id
 none:∀id,(S 0).H.length<=id->(∀k,k<xs.length->L k->¬((S k).H.length<=id/\id<(S (k+1)).H.length))->h id=none
section
variable {lo:Nat}{E:Xa}{base nt:Nat}{O:BS}{xs:O'}{S:Nat->St}{F:Nat->QK}{L:Nat->Prop}{w:World}{μ:Nat->Nat}{h:HF}{a:Act}
theorem Part.ni (p:Part lo nt O xs S F L w μ h a)(R:vE E base xs S F)(n:xT xs){j}{o}(B:xs[j]? =some o)(D:¬L j)(z:∀k∈o.after,L k)(A:∀(i:Nat) (f:Xz),xs[i]? =some f->L i->∀k∈f.after,L k):
  WM lo nt O w μ h a (V8 (S j).T o.tmps):=by
 have N:j<xs.length:=(Zg.1 B).1;refine⟨p.oy,p.sz,fun t d I=> ?_⟩;have G:t∈o.tmps:=by
  have u:∀(s:P'),Xi (V8 (S j).T s) t=some d->t∈s:=by
   intro s;induction s with
   |nil=>grind [V8,Xi]
   |cons k s U=>
    intro h;simp only[V8]at h;cases Q:Xi (S j).T k with
    |none=>grind
    |some v=>
     grind [U2]
  exact u _ I
 have c:=Qy _ _ _ _ I;by_cases q:∃(i:Nat) (f:Xz),xs[i]? =some f/\i≠j/\f.dst=some t
 ·obtain⟨i,f,l,C,g⟩:=q;have K:i<xs.length:=(Zg.1 l).1;rcases n.order j i o f t B l (fun e=>C e.symm) g G with h1|h1
  ·have J:=n.back j o B i h1;have:=R.Po t (i+1) j (by omega) (by omega) fun k m P r b=>n.uniq k i m f t b l (by omega) g
   rw[this]at c;exact p.done i f l (z i h1) t g d c
  ·have M:=n.back i f l j h1;have H:¬L i:=fun x=>D (A i f l x j h1)
   have:=R.Po t 0 j (by omega) (by omega) fun k m _ r b=>n.uniq k i m f t b l (by omega) g
   rw[this]at c;refine p.rest t (fun k m b y=> ?_) d c;by_cases e:k=i
   ·grind
   ·exact n.uniq k i m f t b l e g
 ·have:=R.Po t 0 j (by omega) (by omega) fun k m _ r b g=>q ⟨k,m,b,by omega,g⟩
  rw[this]at c;refine p.rest t (fun k m b y g=> ?_) d c
  grind
theorem Part.heap (p:Part lo nt O xs S F L w μ h a)(R:vE E base xs S F)(J:xT xs)(A:Touch xs F){j:Nat}{B:Xz}(D:xs[j]? =some B)(y:¬L j)(u:∀k∈B.after,L k)(K:∀(i:Nat) (I:Xz),xs[i]? =some I->L i->∀k∈I.after,L k)
  (m:∀(k:Nat) (o:Xz),k<j->xs[k]? =some o->Xm E o.op=false) (id:Nat) (f:id∈(F j).rd) (l:id<(S j).H.length):h id=Xj (S j).H id:=by
 have g:j<xs.length:=(Zg.1 D).1;have b:∀i,i<xs.length->L i->id∉(F i).wr:=by
  intro i M s z;have x:i≠j:=fun e=>y (e▸s)
  have d:xs[i]? =some xs[i]:=Zd M;have:=(A.wr i j _ d g x id z).2 f
  grind
 have c:∀(k:Nat),k<j->id∉(F k).wr:=by
  intro k n z;have d:xs[k]? =some xs[k]:=Zd (by omega);have:=(A.wr k j _ d g (by omega) id z).2 f;have:=J.back k _ d j this;omega
 by_cases h0:id<(S 0).H.length
 ·rw[p.MT id h0 b];exact((R.NB id 0 h0 j (by omega) (by omega) fun k o _ n d=>⟨m k o n d,c k n⟩).1).symm
 ·obtain⟨k,n,C,r⟩:=Il S id (by omega) j l;have v:xs[k]? =some xs[k]:=Zd (by omega);obtain⟨_,_,e1,e2⟩:=R.uF k _ v;have t:L k:=u k (A.made k j B (by omega) D (by omega) id (by rw[e1];exact C) (by rw[e2];exact r) (.inl f));rw[p.new k (by omega) t id C r b];exact((R.NB id (k+1) r j (by omega) (by omega) fun q N _ G d=>⟨m q N G d,c q G⟩).1).symm
end
theorem OR:∀(a:List (Nat×Xx)) h id,id∉a.map (·.1)->SC h a id=h id
 |[],_,_,_=>rfl
 |(i,b)::a,h,id,hn=>by
  simp only[Zt,Zk,not_or]at hn;simp only[SC];rw[OR a _ id hn.2];simp[hn.1]
theorem rT:∀(a:List (Nat×Xx)) h c id,id∈a.map (·.1)->SC h a id=SC c a id
 |[],_,_,_,hn=>by simp at hn
 |(i,b)::a,h,c,id,hn=>by
  simp only[SC];by_cases d:id∈a.map (·.1)
  ·exact rT a _ _ id d
  grind [OR]
theorem Pk:∀a h n id,(id<n\/n+a.length<=id)->RX h n a id=h id
 |[],_,_,_,_=>rfl
 |b::bs,h,n,id,hn=>by
  simp only[RX];rw[Pk bs _ (n+1) id (by grind)]
  grind
theorem rU:∀a h c n id,n<=id->id<n+a.length->RX h n a id=RX c n a id
 |[],_,_,_,_,_,hn=>by simp at hn;omega
 |b::bs,h,c,n,id,h1,hn=>by
  simp only[RX];by_cases e:id=n
  ·grind [Pk]
  ·exact rU bs _ _ _ _ (by omega) (by grind)
section
variable {lo:Nat}{E:Xa}{base nt:Nat}{O:BS}{xs:O'}{S:Nat->St}{F:Nat->QK}{L:Nat->Prop}{w w':World}{μ μ':Nat->Nat}{h:HF}{a:Act}
theorem NZ (a:Act)(b:Option Nat)(v:Value)(t:Nat)(c:b≠some t):(a.put b v).tmps.getD t undef=a.tmps.getD t undef:=by
 cases b with
 |none=>rfl
 |some q=>
  simp_all [Act.put]
theorem tf (a:Act)(t:Nat)(v:Value)(b:t<a.tmps.size):(a.put (some t) v).tmps.getD t undef=v:=by simp_all [Act.put]
theorem put_defers (a:Act)(b:Option Nat)(v:Value):(a.put b v).defers=a.defers/\(a.put b v).tmps.size=a.tmps.size:=by
 cases b<;>simp[Act.put]
theorem vE.inner (R:vE E base xs S F){i}{a}(c:xs[i]? =some a)(d:i+1<xs.length):Xm E a.op=false:=by
 cases b:Xm E a.op with
 |false=>rfl
 |true=>have:=(R.heap i a c b).1;omega
theorem Part.add (p:Part lo nt O xs S F L w μ h a)(R:vE E base xs S F)(W:xT xs)(V:Touch xs F){j:Nat}{n:Xz}(G:xs[j]? =some n)(u:¬L j)
  (M:∀(i:Nat) (B:Xz),xs[i]? =some B->L i->∀k∈B.after,L k) (z:OH nt n.dst=true) (d:DV) (v:Value) (y:List (Nat×Xx)) (s:V')
  (hS:S (j+1)=⟨O2 (S j).T n.dst d,NI (Uh (S j).H y) s⟩) (hF:(F j).wr=y.map (·.1)) (a1:∀q∈y,q.1<(S j).H.length/\∃b,h q.1=some b)
  (hv:XF w' O μ' (RX (SC h y) (S j).H.length s) v d) (hI:X1 w' O μ' (RX (SC h y) (S j).H.length s)) (Q:WL O w μ h w' μ' (RX (SC h y) (S j).H.length s)):
  Part lo nt O xs S F (fun i=>L i\/i=j) w' μ' (RX (SC h y) (S j).H.length s) (a.put n.dst v):=by
 have o:j<xs.length:=(Zg.1 G).1;have a0:(S (j+1)).H.length=(S j).H.length+s.length:=by grind [PX,SV]
 have X:(S 0).H.length<=(S j).H.length:=R.Qv 0 j (by omega) (by omega) fun k xk _ J x=>R.inner x (by omega)
 have D:Xj (S (j+1)).H=RX (SC (Xj (S j).H) y) (S j).H.length s:=by
  grind [rn,PX,iA]
 have r:∀id,id∉(F j).wr->¬((S j).H.length<=id/\id<(S (j+1)).H.length)->RX (SC h y) (S j).H.length s id=h id:=by
  grind [Pk,OR]
 refine⟨by rw[(put_defers a n.dst v).1];exact p.oy.mono Q,(put_defers a n.dst v).2.trans p.sz,fun i B g c t C dd N=> ?_,fun t C dd N=> ?_,hI,fun i g c id l=> ?_,fun id l f=> ?_,fun k J c id Y Z f=> ?_,fun id h0 f=> ?_⟩
 ·rcases c with c|rfl
  ·have m:i≠j:=fun e=>u (e▸c)
   rw[NZ a n.dst v t (W.uniq j i n B t G g (fun e=>m e.symm) C)];exact(p.done i B g c t C dd N).mono Q
  ·rw[G]at g;cases g;rw[C]at z⊢;rw[tf a t v (by rw[p.sz];exact QG z)]
   simp_all [O2,U2]
 ·have P:n.dst≠some t:=C j n G (.inr rfl);rw[NZ a n.dst v t P];exact(p.rest t (fun i B g c=>C i B g (.inl c)) dd N).mono Q
 ·rcases c with c|rfl
  ·have m:i≠j:=fun e=>u (e▸c)
   have x:xs[i]? =some xs[i]:=Zd g;rw[r id ((V.wr i j _ x o m id l).1) fun U=> ?_]
   ·exact p.wr i g c id l
   ·obtain⟨_,_,e1,e2⟩:=R.uF j n G;exact u (M i _ x c j (V.made j i _ o x (fun e=>m e.symm) id (by rw[e1];exact U.1) (by rw[e2];exact U.2) (.inr l)))
  ·rw[hF]at l;have A:id<(S i).H.length:=by
    grind
   rw[D,Pk s _ _ id (.inl A),Pk s _ _ id (.inl A)]
   grind [rT]
 ·rw[r id (f j o (.inr rfl)) (by omega)];exact p.MT id l fun i g c=>f i g (.inl c)
 ·rcases c with c|rfl
  ·have m:k≠j:=fun e=>u (e▸c)
   have I:¬((S j).H.length<=id/\id<(S (j+1)).H.length):=by
    intro U;rcases Nat.lt_or_gt_of_ne m with A|hgt
    ·have:=R.Qv (k+1) j (by omega) (by omega) fun q xq _ hq x=>R.inner x (by omega)
     omega
    ·have:=R.Qv (j+1) k (by omega) (by omega) fun q xq _ hq x=>R.inner x (by omega)
     omega
   rw[r id (f j o (.inr rfl)) I];exact p.new k J c id Y Z fun i g K=>f i g (.inl K)
  ·rw[D]
   grind [rU]
 ·have I:¬((S j).H.length<=id/\id<(S (j+1)).H.length):=f j o (.inr rfl);have hn:=p.none id h0 fun k J c=>f k J (.inl c)
  grind
end
theorem filter_lt {c:Type}(p q:c->Bool):∀(l:List c),(∀x∈l,q x=true->p x=true)->(∃x∈l,p x=true/\q x=false)->(l.filter q).length<(l.filter p).length
 |[],_,h=>by grind
 |y::l,h1,h2=>by
  have d:(l.filter q).length<=(l.filter p).length:=by
   clear h2;induction l with
   |nil=>simp
   |cons z l f=>
    grind
  by_cases b:p y=true/\q y=false
  ·simp[b.1,b.2];omega
  ·have a:∃x∈l,p x=true/\q x=false:=by
    grind
   have:=filter_lt p q l (fun x e=>h1 x (by simp[e])) a
   grind
def IU (n:Nat)(listed:Array Bool):Nat:=((List.range n).filter fun i=> !listed.getD i false).length
theorem yc (n:Nat)(a:Array Bool)(i:Nat)(b:i<n)(c:a.size=n)(h:a.getD i false=false):IU n (a.setIfInBounds i true)<IU n a:=by
 refine filter_lt _ _ _ (fun x _ d=> ?_) ⟨i,List.mem_range.2 b,by simp[h],?_⟩
 ·by_cases e:i=x
  ·grind
  simp_all
 simp_all
theorem rV (n)(a:Array Bool)(h:IU n a=0):∀i,i<n->a.getD i false=true:=by grind [IU,List.filter_eq_nil_iff]
theorem Pt (b)(a:Array Bool)(i):i∈Region.ready .any b a↔i<b.size/\a.getD i true=false/\∀o,b[i]? =some o->∀e∈o.after,Region.binds .any e=true->a.getD e.on false=true:=by
 unfold Region.ready;rw[Yh,List.mem_range];constructor
 ·intro⟨d,c⟩;simp only[Zs,Yq]at c
  grind [Array.all_eq_true_iff_forall_mem]
 grind
section
variable {lo:Nat}{P:Program}{E:Xa}{base nt:Nat}{O:BS}{xs:O'}{S:Nat->St}{F:Nat->QK}{L:Nat->Prop}{w:World}{μ:Nat->Nat}{h:HF}{a:Act}
theorem vE.KN (R:vE E base xs S F){i}{b}(f:xs[i]? =some b)(d:Xm E b.op=false):∀id∈(F i).wr,id<(S i).H.length:=by
 intro id a;rcases pj (R.step i b f) d with⟨_,_,_,e⟩|⟨_,h,r,_,c,_,_,e⟩
 ·grind
 ·rw[e]at a;obtain⟨q,g,rfl⟩:=ZM.1 a
  grind [ie,Xj]
theorem Part.full (p:Part lo nt O xs S F L w μ h a)(R:vE E base xs S F)(N:xT xs)(U:Touch xs F)(m:Nat)(z:m<=xs.length)(x:∀i,i<xs.length->(L i↔i<m))(g:∀(k:Nat) (o:Xz),k<m->xs[k]? =some o->Xm E o.op=false):
  WM lo nt O w μ h a (S m).T/\h=Xj (S m).H:=by
 have f:∀(i:Nat) (b:i<xs.length),xs[i]? =some (xs[i]'b):=fun i b=>Zd b
 have v:∀(i:Nat) (l:Xz),xs[i]? =some l->i<xs.length:=fun i l b=>(Zg.1 b).1
 refine⟨⟨p.oy,p.sz,fun t d C=> ?_⟩,?_⟩
 ·by_cases e:∃(i:Nat) (l:Xz),xs[i]? =some l/\i<m/\l.dst=some t
  ·obtain⟨i,l,b,n,c⟩:=e;have:=R.Po t (i+1) m (by omega) z fun k o I r j=>N.uniq k i o l t j b (by omega) c
   rw[this]at C;exact p.done i l b ((x i (v i l b)).2 n) t c d C
  ·have:=R.Po t 0 m (by omega) z fun k o _ r j c=>e ⟨k,o,j,r,c⟩
   rw[this]at C;exact p.rest t (fun i l b u c=>e ⟨i,l,b,(x i (v i l b)).1 u,c⟩) d C
 ·funext id;by_cases e:∃i,i<m/\id∈(F i).wr
  ·obtain⟨i,n,s⟩:=e;have b:i<xs.length:=by omega
   rw[p.wr i b ((x i b).2 n) id s];have M:=R.KN (f i b) (g i _ n (f i b)) id s;have V:=(vL (R.step i _ (f i b)) (g i _ n (f i b))).1;exact((R.NB id (i+1) (by omega) m (by omega) z fun k o I r j=>⟨g k o r j,(U.wr i k _ (f i b) (v k o j) (by omega) id s).1⟩).1).symm
  ·have A:∀i,i<xs.length->L i->id∉(F i).wr:=fun i b u s=>e ⟨i,(x i b).1 u,s⟩
   by_cases h0:id<(S 0).H.length
   ·rw[p.MT id h0 A];exact((R.NB id 0 h0 m (by omega) z fun k o _ y B=>⟨g k o y B,fun s=>e ⟨k,y,s⟩⟩).1).symm
   ·by_cases M:id<(S m).H.length
    ·obtain⟨k,y,P,K⟩:=Il S id (by omega) m M;rw[p.new k (by omega) ((x k (by omega)).2 y) id P K A];exact((R.NB id (k+1) K m (by omega) z fun q J _ D B=>⟨g q J D B,fun s=>e ⟨q,D,s⟩⟩).1).symm
    ·rw[p.none id (by omega) fun k y G W=> ?_]
     ·grind [Xj]
     ·have Q:=(x k y).1 G;have:=R.Qv (k+1) m (by omega) z fun q J _ D B=>g q J D B
      omega
theorem de (E)(base)(heap)(x y)(s)(b:x.dst=y.dst)(c:x.op=y.op)(e:x.args=y.args)(h:x.guard=y.guard):Vz E base heap x s=Vz E base heap y s:=by
 obtain⟨d,o,a,g,f⟩:=x;obtain⟨j,m,i,l,k⟩:=y;simp only at b c e h;subst b;subst c;subst e;subst h;rfl
theorem Tu {b}{o}{a}(h:Tv P nt b o=some a):XY P o.op=some (a.op,a.args)/\Qi b o.guard=some a.guard/\a.dst=o.dst/\OH nt o.dst=true/\a.after=(o.after.toList.filter (Region.binds .any)).map (·.on):=by
 unfold Tv at h
 grind
end
theorem qj (n)(p:Nat->Bool):(∀i,i<n->p i=true)\/∃i,i<n/\p i=false/\∀k,k<i->p k=true:=by
 induction n with
 |zero=>grind
 |succ n a=>
  grind
theorem uD (l:Array Bool)(i)(h:i<l.size):l.getD i true=l.getD i false:=by
 simp[h]
theorem u9 {F}{n}{P}{c}{Q:Exit->Act->World->Prop}(d)(b:Array Bool)(a)(w)(h:b.size=c.size)(e:∀i,i<c.size->b.getD i false=true)(f:Q .normal a w):wpAnyIn F n P .any c Q d b a w:=by
 have g:Region.ready .any c b=[]:=by
  simp_all [List.eq_nil_iff_forall_not_mem,Pt]
 cases d with
 |zero=>exact⟨g,f⟩
 |succ k=>exact⟨fun _=>f,fun i j=>by grind⟩
theorem Qo (l:Array Bool)(i k)(a:i<l.size):(l.setIfInBounds i true).getD k false=true↔l.getD k false=true\/k=i:=by
 by_cases e:i=k
 ·simp_all
 ·rw[YH,Array.getElem?_setIfInBounds_ne e,<-YH]
  grind
theorem wv {lo nt}{O}{xs}{S}{F}{L b:Nat->Prop}{w}{μ}{h}{a}(c:L=b)(p:Part lo nt O xs S F L w μ h a):Part lo nt O xs S F b w μ h a:=c▸p
theorem HI (E)(base)(A)(B)(h)(n)(r)(a:Wf E base A B h n=some r):∀id∈r.rd,∃b,h id=some b:=by
 have pure:∀f t,VL E h f t=some r->∀id∈r.rd,∃b,h id=some b:=by
  intro f t u id l;by_cases K:E.mode f=.view\/E.mode f=.fresh
  ·grind [VL,Gc]
  have F:r.rd=t.flatMap (Rj h):=by
   unfold VL at u;split at u
   ·grind
   ·simp at u
   ·rename_i m C D;cases x:E.mode f with
    |pure=>exact absurd x C
    |heap=>exact absurd x D
    |view=>grind
    |fresh=>grind
  grind [PE]
 have s:∀(y:DL) (g:K') (c:P'),WH h y=some (g,c)->∀id∈c,∃b,h id=some b:=by
  intro y g c w id l;unfold WH at w
  grind
 cases A with
 |call f=>exact pure f B a
 |Sw=>
  simp only[Wf,Rr]at a
  grind
 |load j q=>
  simp only[Wf,Of]at a;split at a
  ·grind [Vk.pure]
  ·rename_i id XW i G
   grind [QY]
  ·simp at a
 |store q=>
  simp only[Wf,QN]at a;split at a
  ·split at a
   ·grind [P4]
   ·simp at a
  ·simp at a
 |Ov q=>
  simp only[Wf,VX]at a;split at a
  ·grind [Vk.pure]
  ·grind
  ·simp at a
 |slice q lo J=>
  simp only[Wf,QO]at a;split at a
  ·split at a
   ·rename_i d M v;simp only[Zb]at a;subst a;intro id l;unfold WN at v
    grind
   ·simp at a
  ·simp at a
 |append e q bytes=>
  simp only[Wf,Vs]at a;split at a
  ·split at a
   ·rename_i g c w;obtain⟨_,a⟩:=Wq a;split at a
    ·simp only[W9]at a
     grind
    ·split at a
     ·rename_i b I;rw[YJ]at a;split at a
      ·grind [TE]
      grind [RQ]
     ·simp at a
    ·simp at a
   ·simp at a
  ·simp at a
 |clear z=>
  simp only[Wf,QQ]at a
  grind
 |copy q=>
  simp only[Wf,Oh]at a;split at a
  ·grind [Nw]
  ·simp at a
 |lookup p k j z L=>
  simp only[Wf,Tl]at a;split at a
  ·split at a
   ·grind [bn]
   ·simp at a
  ·simp at a
 |mapUpdate p k j H=>
  simp only[Wf,VK]at a;split at a
  ·split at a
   ·grind [iG]
   ·simp at a
  ·simp at a
 |Ng=>
  simp only[Wf,TR]at a
  grind
 |_=>
  have o:r.rd=[]:=by
   simp only[Wf,ba,Re,aZ,cD,QR,Oi,Uf,jJ,be,Uz,US,jI,bd,UE,RE,Uo,SL,Og,Rf,OE,bc,UD,Qt,Tk,Sj,Py,YJ]at a
   (repeat' split at a)<;>simp only[Zb,reduceCtorEq]at a<;>subst a<;>rfl
  rw[o];simp
theorem aF:∀l m,SE m l=true->∀i a,l[i]? =some a->∀k,k<m+i->k∈a.after
 |[],_,_,i,a,hi=>by simp at hi
 |o::os,m,h,i,a,hi=>by
  simp only[SE,Zs]at h;intro k b;cases i with
  |zero=>grind [OC]
  |succ i=>exact aF os (m+1) h.2 i a (by simpa using hi) k (by omega)
def L2 (P:Program)(nt:Nat)(ops:Array Oper)(ys:O'):Prop:=
 ∀(i:Nat) (xo:Xz),ys[i]? =some xo->∃o xo0,ops[i]? =some o/\Tv P nt ops.toList o=some xo0/\xo.dst=xo0.dst/\xo.op=xo0.op/\xo.args=xo0.args/\xo.guard=xo0.guard/\(∀k∈xo0.after,k∈xo.after)/\
  (∀k∈xo.after,k∈xo0.after\/∃j∈xo0.after,∃p,ys[j]? =some p/\k∈p.after)
theorem IY {P}{E}(hE:WI P E){F}(hF:Uw F){n lo base nt}{O}{h}{d}(a7:d.length=h.size)(t:L2 P nt h d)(X:xT d)
  {m} (I:∀(i:Nat) (x:Xz),m<=i->d[i]? =some x->∀k,k<i->k∈x.after) {Q:Exit->Act->World->Prop} {w} {μ} {hh} {s'}
  (hk:∀W w' μ',X1 w' O μ' (Xj s'.H)->WM lo nt O w' μ' (Xj s'.H) W s'.T->WL O w μ hh w' μ' (Xj s'.H)->Q .normal W w'):
  ∀c k (b:Array Bool) a w' μ' s,b.size=d.length->IU d.length b<=c->m<=k->k<=d.length->(∀i,b.getD i false=true↔i<k)->U8 E base (d.drop k) s=some s'->
   X1 w' O μ' (Xj s.H)->WM lo nt O w' μ' (Xj s.H) a s.T->WL O w μ hh w' μ' (Xj s.H)->wpAnyIn F n P .any h Q c b a w':=by
 intro c;induction c with
 |zero=>
  intro k b a w' μ' s u D N M K g hI C A;have a0:=rV _ _ (Nat.le_zero.1 D);have a6:k=d.length:=by
   rcases Z8 k d.length with h1|h1
   ·grind
   ·omega
  grind [U8,u9]
 |succ c ih=>
  intro k b a w' μ' s u D N M K g hI C A;rcases Z8 k d.length with hlt|z
  ·have G:d[k]? =some d[k]:=Zd hlt;rw[Z0 hlt]at g;generalize d[k]=x at G g;simp only[U8]at g;cases r:Vz E base true x s with
   |none=>simp[r]at g
   |some q=>
   obtain⟨s2,rd,wr⟩:=q;simp only[r]at g;have R:b.getD k false=false:=by
    grind
   refine⟨fun hr=> ?_,fun i hi=> ?_⟩
   ·exfalso;obtain⟨o,p,J,v,_,_,_,_,Y,_⟩:=t k _ G;have a1:k∈Region.ready .any h b:=by
     rw[Pt];refine⟨by omega,by grind,fun o' B e he hb=> ?_⟩;rw[J]at B;cases B;have a3:=(Tu v).2.2.2.2;have :e.on∈p.after:=by grind
     exact(K _).2 (X.back k _ G _ (Y _ this))
    grind
   ·rw[Pt]at hi;obtain⟨a5,S,a4⟩:=hi;rw[uD b i (by omega)]at S;have l:d[i]? =some (d[i]'(by omega)):=Zd (by omega);generalize d[i]'(by omega)=xi at l;have L:i=k:=by
     have z:k<=i:=by
      grind
     rcases Nat.eq_or_lt_of_le z with e|h1
     ·exact e.symm
     ·exfalso;obtain⟨o,p,J,v,_,_,_,_,_,Z⟩:=t i xi l;have c5:=(Tu v).2.2.2.2;have y:∀q∈p.after,b.getD q false=true:=by
       grind
      rcases Z k (I i xi (by omega) l k h1)with h2|⟨j,hj,q,hq,hkq⟩
      ·grind
      ·have h3:=(K j).1 (y j hj);have h4:=X.back j q hq k hkq;omega
    subst L;rw[G]at l;cases l;obtain⟨o,p,J,v,g1,g2,g3,g4,Y,Z⟩:=t i x G;have c1:=(Tu v).1;rw[de E base true x p _ g1 g2 g3 g4]at r;unfold wpOpIn;rw[J];simp only[];have:=fg E hE base true h.toList v (next:=wpAnyIn F n P .any h Q c (b.setIfInBounds i true)) (Q:=Q) r hI C fun a2 w2 V k1 k2 k3=>by
     refine ih (i+1) _ a2 w2 V s2 (by simpa using u) ?_ (by omega) (by omega) (fun q=> ?_) g k1 k2 (A.trans k3)
     ·have:=yc d.length b i hlt u R;omega
     grind [Qo]
    simp only[Array.toArray_toList]at this;rcases this with⟨U,t2⟩|⟨U,t2⟩
    ·rw[if_pos U];grind [cA,SU]
    ·rw[if_neg (by rw[U];simp)];exact⟨fun f _=>hF.fn f,t2⟩
  grind [U8,u9]
theorem zC {P:Program}{E:Xa}(hE:WI P E)(d9:P.follows .mixedOrders=true):NL P E:=by
 intro F n hF O lo base nt h4 u os xs f9 hm d6 a3 f7 s s1 s' hd b1 a w μ hI a9 Q y;obtain⟨c8,b3⟩:=xK os;generalize W1 [] os=ys at c8 b3 d6 a3;obtain⟨S,Ft,R,d4,a1,c9⟩:=GD E base xs s s1 hd;have b2:=Hz ys d6;have Y:∀(i:Nat) (g:Xz),xs[i]? =some g->ys[i]? =some g:=fun i g m=>by
  grind
 have f8:∀(i:Nat) (g:Xz),i<xs.length->ys[i]? =some g->xs[i]? =some g:=fun i g hl m=>by
  grind
 have fl:xT xs:=⟨fun i g m=>b2.back i g (Y i g m),fun i j D xj d m hj=>b2.uniq i j D xj d (Y _ _ m) (Y _ _ hj),fun i j D xj d m hj=>b2.order i j D xj d (Y _ _ m) (Y _ _ hj)⟩;have tc:=CE R c9;obtain⟨h3,f6⟩:=TS hm;have d2:ys.length=u.size:=by grind
 have a6:xs.length<=ys.length:=by rw[a3];simp
 have J:ys.drop xs.length=f9:=by rw[a3];simp
 have c0:∀(i:Nat) (g:Xz),xs.length<=i->ys[i]? =some g->∀k,k<i->k∈g.after:=fun i g hl m k y=>by
  grind [aF]
 have d3:L2 P nt u ys:=by
  intro i g m
  grind
 refine wpIn_region_any d9 ?_;have A:=IY (n:=n) (lo:=lo) (base:=base) (O:=O) (Q:=Q) (w:=w) (μ:=μ) (hh:=Xj s.H) (s':=s') hE hF d2 d3 b2 c0 y;have e6:∀(l:Nat) (c:Array Bool) (a:Act) (w':World) (μ':Nat->Nat) (h:HF),c.size=ys.length->IU ys.length c<=l->(∀i,c.getD i false=true->i<xs.length)->
   Part lo nt O xs S Ft (fun i=>c.getD i false=true) w' μ' h a->
   (∀(i:Nat) (D:Xz),xs[i]? =some D->c.getD i false=true->(∀k∈D.after,c.getD k false=true)/\Xm E D.op=false)->
   WL O w μ (Xj s.H) w' μ' h->wpAnyIn F n P .any u Q l c a w':=by
  intro l;induction l with
  |zero=>
   intro c a w' μ' h X b4 c7 p a4 K;have B:=rV _ _ (Nat.le_zero.1 b4);have I:∀i,i<xs.length->c.getD i false=true:=fun i m=>B i (by omega)
   obtain⟨h1,h2⟩:=p.full R fl tc xs.length (Zf _) (fun i m=>⟨fun _=>m,fun _=>I i m⟩) fun k Z y U=>(a4 k Z U (I k y)).2
   subst h2;rw[a1]at h1 K;exact A 0 xs.length c a w' μ' s1 X b4 (Zf _) a6 (fun i=>⟨c7 i,I i⟩) (by rw[J];exact b1) (by have:=p.inv;rwa[a1]at this) h1 K
  |succ l ih=>
   intro c a w' μ' h X b4 c7 p a4 K;have h0:∀(i:Nat) (D:Xz),xs[i]? =some D->i<xs.length:=fun i D m=>(Zg.1 m).1
   have N:∀(i:Nat) (D:Xz),xs[i]? =some D->c.getD i false=true->∀k∈D.after,c.getD k false=true:=fun i D m G=>(a4 i D m G).1
   rcases qj xs.length (fun i=>c.getD i false)with B|⟨i0,hi0,hu0,hmin⟩
   ·obtain⟨g1,g2⟩:=p.full R fl tc xs.length (Zf _) (fun i m=>⟨fun _=>m,fun _=>B i m⟩) fun k Z y U=>(a4 k Z U (B k y)).2
    subst g2;rw[a1]at g1 K;exact A _ xs.length c a w' μ' s1 X b4 (Zf _) a6 (fun i=>⟨c7 i,B i⟩) (by rw[J];exact b1) (by have:=p.inv;rwa[a1]at this) g1 K
   refine⟨fun hr=> ?_,fun i m=> ?_⟩
   ·exfalso;have U:xs[i0]? =some xs[i0]:=Zd hi0;obtain⟨o,M,ho,hc,_,_,_,_,g5,_⟩:=d3 i0 _ (Y _ _ U);have g0:i0∈Region.ready .any u c:=by
     rw[Pt];refine⟨by omega,by grind,fun o' e0 e he hb=> ?_⟩;rw[ho]at e0;cases e0;have W:=(Tu hc).2.2.2.2;have :e.on∈M.after:=by grind
     exact hmin _ (fl.back i0 _ U _ (g5 _ this))
    grind
   ·rw[Pt]at m;obtain⟨g9,d0,g8⟩:=m;rw[uD c i (by omega)]at d0;have e5:i<ys.length:=by omega
    have V:ys[i]? =some ys[i]:=Zd e5;generalize ys[i]=g at V;obtain⟨o,M,ho,hc,g1,g2,g3,g4,g5,g6⟩:=d3 i g V;obtain⟨c1,c2,c3,c4,c5⟩:=Tu hc;have a8:¬c.getD i false=true:=by rw[d0];simp
    have d5:∀k∈M.after,c.getD k false=true:=by
     intro k y;rw[c5]at y;obtain⟨e,he,rfl⟩:=ZM.1 y
     grind
    have W:∀k∈g.after,c.getD k false=true:=by
     intro k y;rcases g6 k y with h1|⟨j,hj,q,hq,hkq⟩
     ·exact d5 k h1
     grind
    have d7:i<xs.length:=by
     rcases Z8 i xs.length with h1|h1
     ·exact h1
     ·have:=W i0 (c0 i g h1 V i0 (by omega))
      grind
    have U:=f8 i g d7 V;have b9:IU ys.length (c.setIfInBounds i true)<=l:=by
     have:=yc ys.length c i e5 X d0;omega
    have b6:∀k,(c.setIfInBounds i true).getD k false=true->k<xs.length:=fun k y=>by
     grind [Qo]
    have a7:∀(a2:Act) (w2:World) (C:Nat->Nat) (h2:HF),Xm E g.op=false->Part lo nt O xs S Ft (fun k=>c.getD k false=true\/k=i) w2 C h2 a2->WL O w' μ' h w2 C h2->
      wpAnyIn F n P .any u Q l (c.setIfInBounds i true) a2 w2:=by
     intro a2 w2 C h2 hh p2 f5;refine ih _ a2 w2 C h2 (by simpa using X) b9 b6 (wv ?_ p2) ?_ (K.trans f5)
     ·funext k;exact propext (Qo c i k (by omega)).symm
     ·intro k Z b5 G;rcases(Qo c i k (by omega)).1 G with G|rfl
      ·grind [Qo]
      grind [Qo]
    unfold wpOpIn;rw[ho];simp only[];cases hh:Xm E g.op with
    |true=>
     obtain⟨f4,d8⟩:=R.heap i g U hh;obtain⟨f1,f2⟩:=p.full R fl tc i (by omega) (fun k y=>⟨fun G=>by
      grind,fun y=>W k (d8 k y)⟩) fun k Z y b5=>(a4 k Z b5 (W k (d8 k y))).2
     subst f2;have e3:=R.step i g U;rw[hh,de E base true g M _ g1 g2 g3 g4]at e3;have:=fg E hE base true u.toList hc (next:=wpAnyIn F n P .any u Q l (c.setIfInBounds i true)) (Q:=Q) e3 p.inv f1 fun a2 w2 C k1 k2 k3=>by
      rw[f4,a1]at k1 k2 k3;refine A l xs.length _ a2 w2 C s1 (by simpa using X) b9 (Zf _) a6 (fun q=>⟨b6 q,fun hq=>(Qo c i q (by omega)).2 ?_⟩) (by rw[J];exact b1) k1 k2 (K.trans k3)
      grind
     simp only[Array.toArray_toList]at this;rcases this with⟨t1,t2⟩|⟨t1,t2⟩
     ·rw[if_pos t1];grind [cA,SU]
     ·rw[if_neg (by rw[t1];simp)];exact⟨fun f _=>hF.fn f,t2⟩
    |false=>
     have a9:=p.ni R fl U a8 W N;have f0:∀t b,g.guard=some (t,b)->t∈g.tmps:=by
      grind [Xz.tmps]
     have e9:∀x∈g.args,∀t∈x.tmp,t∈g.tmps:=by
      grind [Xz.tmps]
     have b7:OH nt g.dst=true:=by rw[g1,c3];exact c4
     have e1:o.dst=g.dst:=by rw[g1,c3]
     rcases pj (R.step i g U) hh with⟨s1,s2,s3,s4⟩|⟨s1,vs,r,s2,s3,s4,s5,s6⟩
     ·have hw:=kA a9 u.toList o.guard M.guard c2 false (by grind [kB]) o rfl;simp only[Array.toArray_toList]at hw;rw[if_neg (by rw[hw];simp),e1];refine⟨fun f _=>hF.fn f,a7 _ w' μ' h hh ?_ (WL.refl _ _ _ _)⟩;exact p.add R fl tc U a8 N b7 (.Wd []) undef [] [] (by rw[s2];rfl) s4 (by simp) ⟨[],rfl,.nil⟩ p.inv (WL.refl _ _ _ _)
     ·have hw:=kA a9 u.toList o.guard M.guard c2 true (by grind [kB]) o rfl;simp only[Array.toArray_toList]at hw;rw[if_pos hw];refine cA hF (SU c1) ?_;have z:∀(k:Nat) (Z:Xz),k<i->xs[k]? =some Z->Xm E Z.op=false:=fun k Z y b5=>R.inner b5 (by omega)
      have e2:∀id∈r.rd,id<(S i).H.length:=fun id a5=>by
       obtain⟨b,hb⟩:=HI E base g.op vs _ _ r s3 id a5
       grind [Xj]
      have b8:Wf E base g.op vs h (S i).H.length=some r:=
       xD E base g.op vs _ r s3 fun id a5=>p.heap R fl tc U a8 W N z id (by rw[s5];exact a5) (e2 id a5)
      have c6:Xw (VB.eval (V8 (S i).T g.tmps)) M.args=some vs:=by
       rw[<-g3,<-s2];exact jS _ fun x L=>BN _ _ x fun t ht=>e9 x L t ht
      have e4:∀q∈r.wr,q.1<(S i).H.length/\∃b,h q.1=some b:=fun q hq=>by
       obtain⟨b,hb⟩:=ie E base g.op vs _ _ r s3 q hq;simp only[Xj]at hb;exact⟨(Zg.1 hb).1,ie E base g.op vs _ _ r b8 q hq⟩
      have d1:r.al≠[]->h (S i).H.length=none:=by
       intro g7;have e7:(S 0).H.length<=(S i).H.length:=R.Qv 0 i (by omega) (by omega) fun k Z _ y L=>z k Z y L
       refine p.none _ e7 fun k y e8 hr=> ?_
       have f3:k≠i:=fun e=>a8 (e▸e8)
       rcases Nat.lt_or_gt_of_ne f3 with hlt'|f0
       ·have:=R.Qv (k+1) i (by omega) (by omega) fun q xq _ hq L=>z q xq hq L
        omega
       ·have h1:(S (i+1)).H.length=(S i).H.length+r.al.length:=by grind [PX,SV]
        have h2:=R.Qv (i+1) k (by omega) (by omega) fun q xq _ hq L=>R.inner L (by omega)
        grind [List.length_pos_iff]
      rw[<-g2]at c1;refine zw E hE base c1 a9 vs c6 r b8 d1 p.inv fun v w2 C k1 k2 k3=> ?_
      rw[e1];exact a7 _ w2 C _ hh (p.add R fl tc U a8 N b7 r.val v r.wr r.al s4 s6 e4 k1 k2 k3) k3
 obtain⟨gm,gi⟩:=Tr (w':={w with drawn:=w.drawn+1}) hI (Zf _) (fun _ _=>rfl) rfl rfl rfl;have b0:=a9.mono gm;have a0:∀i,¬((Array.replicate u.size false).getD i false=true):=by
  intro i m;rw[YH]at m
  grind
 refine e6 u.size (Array.replicate u.size false) a _ μ (Xj s.H) (by simp[d2]) ?_ (fun i G=>absurd G (a0 i)) ?_ (fun i D _ G=>absurd G (a0 i)) gm
 ·rw[<-d2];exact Zy (List.length_filter_le _ _) (by simp)
 ·refine⟨b0.oy,b0.sz,fun i g _ G=>absurd G (a0 i),fun t _ d hd=>b0.slot t d (by rw[<-d4];exact hd),gi,fun i _ G=>absurd G (a0 i),fun id _ _=>by rw[d4],fun k _ G=>absurd G (a0 k),fun id a5 _=> ?_⟩
  grind [Xj]
