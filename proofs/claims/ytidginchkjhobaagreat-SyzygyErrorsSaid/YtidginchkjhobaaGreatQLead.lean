/- Leading terms, in the program and the reference. -/
import Derived.Test.YtidginchkjhobaaGreatQPol
set_option maxHeartbeats 16000000
set_option maxRecDepth 100000
namespace Go.Num
def V7 (o:List (List Int))(b:Qm):List Qm->Qm
 |[]=>b
 |t::ts=>V7 o (if WC o t.2 b.2=.ofNat 1 then t else b) ts
theorem Vy:∀(o:List (List Int)) (m n:List Nat),WC o m n=.ofNat 1\/WC o m n=.negSucc 0\/WC o m n=.ofNat 0
 |[],m,n=>Vz m n
 |r::o,m,n=>by
  simp only[WC];split
  ·exact .inr (.inl rfl)
  ·split
   ·exact .inl rfl
   ·exact Vy o m n
theorem Qp (o:List (List Int)):∀(a:List Qm) (b:Qm),V7 o b a=b\/V7 o b a∈a
 |[],b=>.inl rfl
 |t::a,b=>by
  simp only[V7];split
  ·rcases Qp o a t with h|h
   ·exact .inr (by rw[h];exact Ze ..)
   ·exact .inr (Zc _ h)
  ·rcases Qp o a b with h|h
   ·exact .inl h
   ·exact .inr (Zc _ h)
end Go.Num
namespace Go.Proofs.YtidginchkjhobaaGreat
open Go.Ev Go.Num
def Av (E:Xa)(f:Nat)(l:PL)(o:List (List Int))(ts:List Qm):Prop:=∀t∈ts,∀u∈ts,E.pure f [.one l,.agg (mo t.2),.agg (mo u.2)]=some (.one (.int .i64 (WC o t.2 u.2)))
theorem vr {B:Xs}(d:Std B){l:PL}{o:List (List Int)}(h:SG l o)(e:V3 o)(a:o.length<1000000){c:List Qm}(b:Eo c):X1 B fun E _=>Av E 85 l o c:=
 UU fun t f=>UU fun u g=>(vt d h e (b t f) (b u g) a).Xj
theorem vC {B:Xs}(d:Std B){l:PL}{o:List (List Int)}(h:SG l o)(e:V3 o)(a:o.length<1000000){c:List Qm}(b:Eo c):X1 B fun E _=>Av E 114 l o c:=
 UU fun t f=>UU fun u g=>(OA d h e (b t f) (b u g) a).Xj
abbrev mn (c:List PL):Xz:=⟨false,0,12,[c.map DL.p],false,75⟩
abbrev zT:List DL:=[.p (.bool false),.p .XC,.p (.bool false),.p .XC,.p (.int .i64 (.ofNat 0)),.p (.int .i64 (.ofNat 0)),.p (.int .i64 (.ofNat 0)),.p (.int .i64 (.ofNat 0)),.p (.int .i64 (.ofNat 0)),.p (.int .i64 (.ofNat 0)),.p (.int .i64 (.ofNat 0)),.p (.int .i64 (.ofNat 0))]
abbrev FG:List PL:=[.bool false,.XC,.bool false,.XC,.int .i64 (.ofNat 0),.int .i64 (.ofNat 0),.int .i64 (.ofNat 0),.int .i64 (.ofNat 0),.int .i64 (.ofNat 0),.int .i64 (.ofNat 0),.int .i64 (.ofNat 0),.int .i64 (.ofNat 0)]
theorem qK {E:Xa}{K:Nat}{N M:PL}{o:List (List Int)}{f:List Qm}(v:E.mode=md){c:List (List PL)}(C:Sl N c)(hl:c.length<1000000)(hc:Av E 85 M o f):∀{rest:List (List PL)} {w:List Qm},X4 rest w->(∀t∈w,t∈f)->∀(i k:Nat) (l:List PL) (b:Qm),W9 l b->b∈f->c.drop i=rest->i+rest.length=c.length->rest.length<k->
  ∃a d,Xb E K 0 [0,1,4,6,7] x107_1 k ⟨[(0,.one (.p N)),(1,.one (.p M)),(4,.one (.ptr 0 0 0 0)),(6,.one (.ptr 1 0 0 0)),(7,.one (.p (.int .i64 (.ofNat i))))],[⟨false,0,12,[zT],false,75⟩,mn l]⟩=some (.exit 0,⟨a,[⟨false,0,12,[zT],false,75⟩,mn d]⟩)/\(Xh a 4=some (.one (.ptr 0 0 0 0))/\Xh a 6=some (.one (.ptr 1 0 0 0)))/\W9 d (V7 o b w):=by
 intro rest w h;induction h with
 |nil=>
  intro _ i k l b A _ Q G R;obtain⟨k,rfl⟩:∃L,k=L+1:=⟨k-1,by omega⟩;have j:¬i<c.length:=by simp at G;omega
  have :∃a,Xb E K 0 [0,1,4,6,7] x107_1 (k+1) ⟨[(0,.one (.p N)),(1,.one (.p M)),(4,.one (.ptr 0 0 0 0)),(6,.one (.ptr 1 0 0 0)),(7,.one (.p (.int .i64 (.ofNat i))))],[⟨false,0,12,[zT],false,75⟩,mn l]⟩=some (.exit 0,⟨a,[⟨false,0,12,[zT],false,75⟩,mn l]⟩)/\(Xh a 4=some (.one (.ptr 0 0 0 0))/\Xh a 6=some (.one (.ptr 1 0 0 0))):=by
   apply VE
   ·rw[Xb];simp only[Xm,Xq,reduceIte,Nat.reduceEqDiff,x107_1,C.len,j];rfl
   ·simp only[Xm,reduceIte,Nat.reduceEqDiff,and_self]
  obtain⟨a,m,q⟩:=this;exact⟨a,l,m,q,A⟩
 |@cons ch t rest w T h U=>
  intro g i k l b A r Q G R;obtain⟨k,rfl⟩:∃L,k=L+1:=⟨k-1,by omega⟩;simp only[Zi]at G R;have j:i<c.length:=by omega
  obtain⟨gp,O⟩:=Xi Q;have n:=hc t (g t (Ze ..)) b r;have J:=T;have F:=A;obtain⟨x,y,z,u,rfl,-,S⟩:=J;obtain⟨x2,y2,z2,u2,rfl,-,hn⟩:=F;have V:=fun(hh:HF) (kd:IntKind)=>C.idx (h:=hh) (k:=kd) (sz:=12) gp (by simp[XI,S.1])
  have P:Xe .i64 (.ofNat (i+1))=.ofNat (i+1):=wrap_i64 (by omega);have W:=S.1;have X:=hn.1;have Y:(Xu t.2).take 8=Xu t.2:=Zd (by rw[Xc];omega);have Z:(Xu b.2).take 8=Xu b.2:=Zd (by rw[Xc];omega);have dn:(Xu b.2).drop 8=[]:=Zm (by rw[Xc];omega);by_cases B:WC o t.2 b.2=.ofNat 1
  ·obtain⟨a,d,m,q,D⟩:=U (fun s I=>g s (Zc _ I)) (i+1) k _ t T (g t (Ze ..)) O (by omega) (by omega);refine⟨a,d,?_,q,by simp only[V7,if_pos B];exact D⟩;rw[B]at n;simp only[mn,Zr,Wk]at m;rw[Xb];simp only[mn,Xm,Xq,Vg,reduceIte,Nat.reduceEqDiff,Nat.reduceLeDiff,Nat.reduceLT,Nat.reduceAdd,x107_1,C.len,j,V,Wk,Xc,XI,W,X,Y,Z,dn,Wb,Wf,v,X5,n,P];exact m
  ·obtain⟨a,d,m,q,D⟩:=U (fun s I=>g s (Zc _ I)) (i+1) k _ b A r O (by omega) (by omega);refine⟨a,d,?_,q,by simp only[V7,if_neg B];exact D⟩;have H:Tf (.ofNat 0) (WC o t.2 b.2)=false:=by
    rcases Vy o t.2 b.2 with e|e|e
    ·exact absurd e B
    ·rw[e];rfl
    ·rw[e];rfl
   simp only[mn,Zr,Wk]at m;rw[Xb];simp only[mn,Xm,Xq,Vg,reduceIte,Nat.reduceEqDiff,Nat.reduceLeDiff,Nat.reduceAdd,x107_1,C.len,j,V,Wk,Xc,XI,W,X,Y,Z,Wb,Wf,v,X5,n,H,P];exact m
theorem vl {B:Xs}(g:Std B){q e:PL}{o:List (List Int)}(Z:SG e o)(T:V3 o)(p:o.length<1000000){t:Qm}{a:List Qm}(d:PQ q (t::a))(hl:a.length<100000):∃c,Xx B 107 [.one q,.one e] (.XZ [.agg c,.one (.bool true)])/\W9 c (V7 o t a):=by
 have m:=d.qj;obtain⟨es,r,d⟩:=d;cases d with
 |@cons ch t rest a C h=>
  have A:=h.length;have P:=vr g Z T p m;have b:∀E K,Av E 85 e o (t::a)->E.mode=md->rest.length+2<=K->∃c,Ug E K x107 [.one q,.one e]=some (.XZ [.agg c,.one (.bool true)])/\W9 c (V7 o t a):=by
   intro E K j l hK;obtain⟨T',f,v,⟨H,I⟩,w⟩:=qK (K:=K) l r (by simp;omega) j h (fun s U=>Zc _ U) 1 K ch t C (Ze ..) rfl (by simp;omega) (by omega);refine⟨f,?_,w⟩;obtain⟨x,y,z,u,rfl,-,R⟩:=C;obtain⟨x2,y2,z2,u2,rfl,-,S⟩:=w;have D:=R.1;have Y:=S.1;have V:=fun(Q:HF) (W:IntKind)=>r.idx (h:=Q) (k:=W) (sz:=12) (i:=0) rfl (by simp[XI,D])
   have tm:(Xu t.2).take 8=Xu t.2:=Zd (by rw[Xc];omega);have tn:(Xu (V7 o t a).2).take 8=Xu (V7 o t a).2:=Zd (by rw[Xc];omega);have dm:(Xu t.2).drop 8=[]:=Zm (by rw[Xc];omega);have dn:(Xu (V7 o t a).2).drop 8=[]:=Zm (by rw[Xc];omega);simp only[mn,Zr,Wk]at v;have n:¬rest.length+1=0:=by omega
   simp only[Xm,Xq,Vg,reduceIte,Nat.reduceEqDiff,Nat.reduceLeDiff,Nat.reduceAdd,x107,r.len,n,V,Wk,Xc,D,Y,tm,tn,Wb,v,H,I]
  obtain⟨N,O⟩:=P.and (g.Xj.and (X1.ge (B:=B) (rest.length+2)));obtain⟨J,L,M⟩:=O N N (Zh _) (Zh _);obtain⟨c,F,G⟩:=b _ N J L M;refine⟨c,⟨N,N+1,?_⟩,G⟩;show(match B.X 107 with
   |some xf=>Ug (B.E N N) N xf _
   |none=>(B.E N N).pure _ _)=_
  rw[g.Wa _ _ rfl];exact F
theorem qT {E:Xa}{K:Nat}{M:PL}{o:List (List Int)}{d:List Qm}(v:E.mode=md){all:List (List PL)}(hl:all.length<1000000)(hc:Av E 114 M o d):∀{rest:List (List PL)} {w:List Qm},X4 rest w->(∀t∈w,t∈d)->∀(i k:Nat) (j:List PL) (b:Qm) (G:List Xz),W9 j b->b∈d->all.drop i=rest->i+rest.length=all.length->rest.length<k->
  ∃a c n,Xb E K 0 [1,4,6,17,18,19] x61_1 k ⟨[(1,.one (.p M)),(4,.one (.ptr 0 0 0 0)),(6,.one (.ptr 1 0 0 0)),(17,.one (.p (.Xp all))),(18,.one (.p (.int .i64 (.ofNat all.length)))),(19,.one (.p (.int .i64 (.ofNat i))))],⟨false,0,12,[zT],false,75⟩::mn j::G⟩=some (.exit 0,⟨a,⟨false,0,12,[zT],false,75⟩::mn c::n⟩)/\(Xh a 4=some (.one (.ptr 0 0 0 0))/\Xh a 6=some (.one (.ptr 1 0 0 0)))/\W9 c (V7 o b w):=by
 intro rest w h;have sl:Sl (.Xp all) all:=.Xp;induction h with
 |nil=>
  intro _ i k j b G A _ P F Q;obtain⟨k,rfl⟩:∃L,k=L+1:=⟨k-1,by omega⟩;have g:¬i<all.length:=by simp at F;omega
  have :∃a,Xb E K 0 [1,4,6,17,18,19] x61_1 (k+1) ⟨[(1,.one (.p M)),(4,.one (.ptr 0 0 0 0)),(6,.one (.ptr 1 0 0 0)),(17,.one (.p (.Xp all))),(18,.one (.p (.int .i64 (.ofNat all.length)))),(19,.one (.p (.int .i64 (.ofNat i))))],⟨false,0,12,[zT],false,75⟩::mn j::G⟩=some (.exit 0,⟨a,⟨false,0,12,[zT],false,75⟩::mn j::G⟩)/\(Xh a 4=some (.one (.ptr 0 0 0 0))/\Xh a 6=some (.one (.ptr 1 0 0 0))):=by
   apply VE
   ·rw[Xb];simp only[Xm,Xq,reduceIte,Nat.reduceEqDiff,x61_1,g];rfl
   ·simp only[Xm,reduceIte,Nat.reduceEqDiff,and_self]
  obtain⟨a,l,q⟩:=this;exact⟨a,j,G,l,q,A⟩
 |@cons ch t rest w S h T=>
  intro f i k j b G A r P F Q;obtain⟨k,rfl⟩:∃L,k=L+1:=⟨k-1,by omega⟩;simp only[Zi]at F Q;have g:i<all.length:=by omega
  obtain⟨gp,N⟩:=Xi P;have m:=hc t (f t (Ze ..)) b r;have J:=S;have D:=A;obtain⟨x,y,z,u,rfl,-,R⟩:=J;obtain⟨x2,y2,z2,u2,rfl,-,hn⟩:=D;have U:=fun(hh:HF) (kd:IntKind)=>sl.idx (h:=hh) (k:=kd) (sz:=12) gp (by simp[XI,R.1])
  have O:Xe .i64 (.ofNat (i+1))=.ofNat (i+1):=wrap_i64 (by omega);have V:=R.1;have W:=hn.1;have X:(Xu t.2).take 8=Xu t.2:=Zd (by rw[Xc];omega);have Y:(Xu b.2).take 8=Xu b.2:=Zd (by rw[Xc];omega);have Z:(Xu b.2).drop 8=[]:=Zm (by rw[Xc];omega);have w0:=XT t.2;by_cases B:WC o t.2 b.2=.ofNat 1
  ·obtain⟨a,c,n,l,q,C⟩:=T (fun s I=>f s (Zc _ I)) (i+1) k _ t (G++[⟨false,0,12,[.p (.bool x)::.p y::.p (.bool z)::.p u::Xu t.2],false,75⟩]) S (f t (Ze ..)) N (by omega) (by omega);refine⟨a,c,n,?_,q,by simp only[V7,if_pos B];exact C⟩;rw[B]at m;simp only[mn,Zr,Wk]at l;rw[Xb];simp only[mn,Xm,Xq,Vg,reduceIte,Nat.reduceEqDiff,Nat.reduceLeDiff,Nat.reduceLT,Nat.reduceAdd,x61_1,g,U,Wk,Xc,V,W,X,Y,Z,Wb,Wf,v,X5,m,O];exact l
  ·obtain⟨a,c,n,l,q,C⟩:=T (fun s I=>f s (Zc _ I)) (i+1) k _ b (G++[⟨false,0,12,[.p (.bool x)::.p y::.p (.bool z)::.p u::Xu t.2],false,75⟩]) A r N (by omega) (by omega);refine⟨a,c,n,?_,q,by simp only[V7,if_neg B];exact C⟩;have H:Tf (.ofNat 0) (WC o t.2 b.2)=false:=by
    rcases Vy o t.2 b.2 with e|e|e
    ·exact absurd e B
    ·rw[e];rfl
    ·rw[e];rfl
   simp only[mn,Zr,Wk]at l;rw[Xb];simp only[mn,Xm,Xq,Vg,reduceIte,Nat.reduceEqDiff,Nat.reduceLeDiff,Nat.reduceAdd,x61_1,g,U,Wk,Xc,V,W,X,Y,Wb,Wf,v,X5,m,H,O];exact l
theorem Xx.yK {B:Xs}{f:Nat}{a:List PV}{b:Vb}{p:PV->Prop}(g:B.X f=some b)(h:X1 B fun E K=>∃r,Ug E K b a=some r/\p r):∃r,Xx B f a r/\p r:=by
 obtain⟨N,e⟩:=h;obtain⟨r,c,d⟩:=e N N (Zh _) (Zh _);refine⟨r,⟨N,N+1,?_⟩,d⟩;show(match B.X f with
  |some b=>Ug (B.E N N) N b a
  |none=>(B.E N N).pure f a)=some r
 rw[g];exact c
theorem vy {B:Xs}(v:Std B){M L:PL}{o:List (List Int)}(so:SG L o)(ho:V3 o)(H:o.length<1000000){t:Qm}{f:List Qm}(m:PQ M (t::f))(hl:f.length<100000):∃c,Xx B 61 [.one M,.one L] (.XZ [.agg c,.one (.bool true)])/\W9 c (V7 o t f):=by
 have F:=m.qj;obtain⟨es,N,m⟩:=m;cases m with
 |@cons ch t rest f R h=>
  have l:=h.length;have Y:=vC v so ho H F;have q:=Sl.Vr N;obtain⟨r,W,c,rfl,X⟩:=Xx.yK (p:=fun r=>∃c,r=.XZ [.agg c,.one (.bool true)]/\W9 c (V7 o t f)) (v.Wa 61 _ rfl) (a:=[.one M,.one L]) ((Y.and (v.Xj.and (X1.ge (rest.length+2)))).mono fun E K ⟨w,D,hK⟩=>by
   obtain⟨T',n,G',O,⟨U,V⟩,P⟩:=qT (K:=K) D (all:=rest) (by omega) w h (fun s hs=>Zc _ hs) 0 K ch t [] R (Ze ..) rfl (by omega) (by omega);refine⟨_,?_,n,rfl,P⟩;have A:∀d∈rest,d.length=12:=by
    intro d Z;obtain⟨i,Q⟩:=ZC.1 Z;have :i<f.length:=by rw[<-l];exact(Zb.1 Q).1
    obtain⟨d',g,I⟩:=h.get i _ (Zf this);rw[Q]at g;obtain rfl:=Option.some.inj g;obtain⟨a,b,c,e,rfl,-,I⟩:=I;simp[XI,I.1]
   obtain⟨x,y,z,u,rfl,-,hm⟩:=R;obtain⟨x2,y2,z2,u2,rfl,-,hn⟩:=P;have T:=hm.1;have n8:=hn.1;have S:=fun(C:HF) (kd:IntKind)=>N.idx (h:=C) (k:=kd) (sz:=12) (i:=0) rfl (by simp[XI,T])
   have tm:(Xu t.2).take 8=Xu t.2:=Zd (by rw[Xc];omega);have tn:(Xu (V7 o t f).2).take 8=Xu (V7 o t f).2:=Zd (by rw[Xc];omega);have dm:(Xu t.2).drop 8=[]:=Zm (by rw[Xc];omega);have dn:(Xu (V7 o t f).2).drop 8=[]:=Zm (by rw[Xc];omega);simp only[mn,Zr,Wk]at O;have G:¬rest.length+1=0:=by omega
   have J:=fun C=>VP (c:=.bool x::y::.bool z::u::mo t.2) A C
   have j:=N.len;rw[q]at S j⊢;simp only[Xm,Xq,Vg,reduceIte,Nat.reduceEqDiff,Nat.reduceLeDiff,Nat.reduceAdd,x61,j,Sl.Xp.len,J,G,S,Wk,Xc,T,n8,tm,tn,Wb,O,U,V])
  exact⟨c,W,X⟩
end Go.Proofs.YtidginchkjhobaaGreat
namespace Go.Num
def XU (o:List (List Int)):List Qm->Option Qm
 |[]=>none
 |t::ts=>some (V7 o t ts)
def Tv (o:List (List Int))(m:List Nat):List (List Qm)->Nat->Option Nat
 |[],_=>none
 |f::fs,i=>match XU o f with
  |some s=>if WO s.2 m=true then some i else Tv o m fs (i+1)
  |none=>Tv o m fs (i+1)
def XQ (t s:Qm):Qm:=(t.1 / s.1,X6 t.2 s.2)
end Go.Num
namespace Go.Proofs.YtidginchkjhobaaGreat
open Go.Ev Go.Num
theorem vm {B:Xs}(d:Std B){c e:PL}(b:PQ c []):Xx B 107 [.one c,.one e] (.XZ [.agg FG,.one (.bool false)]):=by
 obtain⟨g,f,b⟩:=b;cases b;have a:=f.len;refine Xx.of (d.Wa _ _ rfl) (X1.of fun K n=> ?_);simp only[Xm,Xq,reduceIte,Nat.reduceEqDiff,Nat.reduceLeDiff,x107,a]
theorem Tr {B:Xs}(e:Std B){h g:PL}{o:List (List Int)}(m:SG g o)(l:V3 o)(d:o.length<1000000){a:List Qm}(f:PQ h a)(k:a.length<100000):∃c b,Xx B 107 [.one h,.one g] (.XZ [.agg c,.one (.bool b)])/\match XU o a with |some s=>b=true/\W9 c s|none=>b=false/\c=FG:=by
 cases a with
 |nil=>exact⟨FG,false,vm e f,rfl,rfl⟩
 |cons t a=>
  obtain⟨c,i,j⟩:=vl e m l d f (by simp at k;omega);exact⟨c,true,i,rfl,j⟩
theorem bD {B:Xs}(a:Std B){c d:List PL}{t s:Qm}(l:W9 c t)(m:W9 d s)(o:Sq t.1)(n:Sq s.1)(h0:s.1≠0)(g:WO s.2 t.2=true):∃e,Xx B 113 [.agg c,.agg d] (.agg e)/\W9 e (XQ t s):=by
 obtain⟨x,y,z,u,rfl,v,b⟩:=l;obtain⟨x2,M,N,L,rfl,w,f⟩:=m;obtain⟨e,j,i⟩:=Dd a v w o n h0;have k:=xX a b f g;obtain⟨G,H,I,J,rfl⟩:=i.len;have q:=b.1;have r:=f.1;have p:=(TN b f).1;have C:(Xu t.2).take 8=Xu t.2:=Zd (by rw[Xc];omega);have D:(Xu s.2).take 8=Xu s.2:=Zd (by rw[Xc];omega);have A:(Xu (X6 t.2 s.2)).take 8=Xu (X6 t.2 s.2):=Zd (by rw[Xc];omega);have F:(Xu (X6 t.2 s.2)).drop 8=[]:=Zm (by rw[Xc];omega);refine⟨_,Xx.of (a.Wa _ _ rfl) ((j.Xj.and (k.Xj.and a.Xj)).mono fun E K ⟨e1,e2,h⟩=> ?_),W9.mk i (TN b f)⟩;simp(decide:=true)only[Xm,Xq,reduceIte,Nat.reduceAdd,x113,Wk,Xc,q,r,p,C,D,A,Wb,Wf,h,X5,e1,e2]
theorem PE {B:Xs}(d:Std B){c:List PL}{t:Qm}(i:W9 c t)(o:Sq t.1)(h0:t.1≠0){l:PL}{b:List Qm}(m:PQ l b)(n:Sz b)(k:∀u∈b,XE (Xg t.2 u.2))(j:b.length<1000000):
  ∃a,Xx B 112 [.agg c,.one l] (.one (.Xp a))/\X4 a (XS t.1 t.2 b):=by
 obtain⟨x,y,z,u,rfl,q,f⟩:=i;obtain⟨a,g,h⟩:=NZ d q o h0 f m n k j;have p:=f.1;have r:(Xu t.2).take 8=Xu t.2:=Zd (by rw[Xc];omega);refine⟨a,Xx.of (d.Wa _ _ rfl) ((g.Xj.and d.Xj).mono fun E K ⟨e1,e⟩=> ?_),h⟩;simp(decide:=true)only[Xm,Xq,reduceIte,Nat.reduceAdd,x112,Wk,Xc,p,r,Wb,Wf,e,X5,e1]
theorem DF {a b:Type}{p q:a->b->Prop}{x:a}{y:b}(h:p x y)(k:q x y):∃x y,p x y/\q x y:=⟨x,y,h,k⟩
abbrev Ut (ls:List PL)(fs:List (List Qm)):Prop:=XF PQ ls fs
def Xf (ls:List PL):List (List PL):=ls.map fun p=>[p]
theorem XJ {a:List PL}{i:Nat}{p:PL}(h:a[i]? =some p):(Xf a)[i]? =some [p]:=by simp[Xf,h]
theorem Xr (a:List PL):(Xf a).length=a.length:=by simp[Xf]
inductive Pm (E:Xa)(lo:PL)(m:List Nat):List PL->Nat->Option Nat->Prop
 |nil {i:Nat}:Pm E lo m [] i none
 |skip {p x y z u:PL} {k:List Nat} {ps:List PL} {i:Nat} {r:Option Nat} (hk:k.length=8) (h1:E.pure 107 [.one p,.one lo]=some (.XZ [.agg (x::y::z::u::mo k),.one (.bool false)])) (h:Pm E lo m ps (i+1) r):Pm E lo m (p::ps) i r
 |no {p x y z u:PL} {k:List Nat} {ps:List PL} {i:Nat} {r:Option Nat} (hk:k.length=8) (h1:E.pure 107 [.one p,.one lo]=some (.XZ [.agg (x::y::z::u::mo k),.one (.bool true)])) (h2:E.pure 133 [.agg (mo k),.agg (mo m)]=some (.one (.bool false))) (h:Pm E lo m ps (i+1) r):Pm E lo m (p::ps) i r
 |yes {p x y z u:PL} {k:List Nat} {ps:List PL} {i:Nat} (hk:k.length=8) (h1:E.pure 107 [.one p,.one lo]=some (.XZ [.agg (x::y::z::u::mo k),.one (.bool true)])) (h2:E.pure 133 [.agg (mo k),.agg (mo m)]=some (.one (.bool true))):Pm E lo m (p::ps) i (some i)
theorem gq {B:Xs}(q:Std B){t:PL}{o:List (List Int)}(F:SG t o)(A:V3 o)(e:o.length<1000000){m:List Nat}(w:XE m):∀{D:List PL} {l:List (List Qm)},Ut D l->(∀f∈l,f.length<100000)->∀i,X1 B fun E _=>Pm E t m D i (Tv o m l i)
 |_,_,.nil,_,i=>X1.of fun _ _=>.nil
 |_,_,.cons (x:=p) (y:=f) hp h,hl,i=>by
  have C:=gq q F A e w h (fun g H=>hl g (Zc _ H)) (i+1);obtain⟨c,b,n,a⟩:=Tr q F A e hp (hl f (Ze ..));unfold Tv;cases d:XU o f with
  |none=>
   simp only[d]at a;obtain⟨rfl,rfl⟩:=a;refine(C.and n.Xj).mono fun E K ⟨e1,e2⟩=> ?_
   exact .skip (k:=[0,0,0,0,0,0,0,0]) rfl e2 e1
  |some s=>
   simp only[d]at a;obtain⟨rfl,a⟩:=a;obtain⟨x,y,z,u,rfl,-,r⟩:=a;have j:=N4 q r.1 w.1;show X1 B fun E _=>Pm E t m (p::_) i (if WO s.2 m=true then some i else Tv o m _ (i+1))
   cases v:WO s.2 m with
   |true=>
    rw[v]at j;refine(n.Xj.and j.Xj).mono fun E K ⟨e1,e2⟩=> ?_
    rw[if_pos rfl];exact .yes r.1 e1 e2
   |false=>
    rw[v]at j;refine(C.and (n.Xj.and j.Xj)).mono fun E K ⟨G,e1,e2⟩=> ?_
    rw[if_neg (by simp)];exact .no r.1 e1 e2 G
theorem zA {E:Xa}{K:Nat}{L R:PL}{m:List Nat}(g:E.mode=md)(Q:m.length=8){b:List PL}(n:Sl L (Xf b))(U:b.length<1000000):∀{rest:List PL} {i:Nat} {r:Option Nat},Pm E R m rest i r->∀(k:Nat) (G:List Xz),b.drop i=rest->i+rest.length=b.length->rest.length<k->
  ∃o t,Xb E K 0 [0,1,5,7] x148_1 k ⟨[(0,.one (.p L)),(1,.one (.p R)),(5,.one (.ptr 0 0 0 0)),(7,.one (.p (.int .i64 (.ofNat i))))],⟨false,0,8,[Xu m],false,73⟩::G⟩=some (match r with |some _=>.ret|none=>.exit 0,⟨o,t⟩)/\match r with |some j=>Xh o 6=some (.one (.p (.int .i64 (.ofNat j))))|none=>True:=by
 intro rest i r h;induction h with
 |@nil i=>
  intro k G q f s;obtain⟨k,rfl⟩:∃l,k=l+1:=⟨k-1,by omega⟩;have d:¬i<b.length:=by simp at f;omega
  have a:=n.len;rw[Xr]at a;apply DF
  ·rw[Xb];simp only[Xm,Xq,reduceIte,Nat.reduceEqDiff,x148_1,a,d];rfl
  ·trivial
 |@skip p x y z u c S i r e w h N=>
  intro k G q f s;obtain⟨k,rfl⟩:∃l,k=l+1:=⟨k-1,by omega⟩;simp only[Zi]at f s;have d:i<b.length:=by omega
  have a:=n.len;rw[Xr]at a;obtain⟨v,D⟩:=Xi q;have B:=fun(A:HF) (C:IntKind)=>n.idx (h:=A) (k:=C) (sz:=1) (XJ v) rfl
  have H:Xe .i64 (.ofNat (i+1))=.ofNat (i+1):=wrap_i64 (by omega);have F:(Xu c).take 8=Xu c:=Zd (by rw[Xc];omega);have P:(Xu c).drop 8=[]:=Zm (by rw[Xc];omega);have T:=XT c;obtain⟨o,t,I,J⟩:=N k (G++[⟨false,0,12,[.p x::.p y::.p z::.p u::Xu c],false,75⟩]) D (by omega) (by omega);refine⟨o,t,?_,J⟩;rw[Xb];simp only[Xm,Xq,Vg,reduceIte,Nat.reduceEqDiff,Nat.reduceLeDiff,Nat.reduceAdd,x148_1,a,d,B,Wk,Xc,e,g,X5,w,H];exact I
 |@no p x y z u c S i r e w M h N=>
  intro k G q f s;obtain⟨k,rfl⟩:∃l,k=l+1:=⟨k-1,by omega⟩;simp only[Zi]at f s;have d:i<b.length:=by omega
  have a:=n.len;rw[Xr]at a;obtain⟨v,D⟩:=Xi q;have B:=fun(A:HF) (C:IntKind)=>n.idx (h:=A) (k:=C) (sz:=1) (XJ v) rfl
  have H:Xe .i64 (.ofNat (i+1))=.ofNat (i+1):=wrap_i64 (by omega);have F:(Xu c).take 8=Xu c:=Zd (by rw[Xc];omega);have P:(Xu c).drop 8=[]:=Zm (by rw[Xc];omega);have O:(Xu m).take 8=Xu m:=Zd (by rw[Xc];omega);have T:=XT c;obtain⟨o,t,I,J⟩:=N k (G++[⟨false,0,12,[.p x::.p y::.p z::.p u::Xu c],false,75⟩]) D (by omega) (by omega);refine⟨o,t,?_,J⟩;rw[Xb];simp only[Xm,Xq,Vg,reduceIte,Nat.reduceEqDiff,Nat.reduceLeDiff,Nat.reduceAdd,x148_1,a,d,B,Wk,Xc,e,Q,F,O,Wb,Wf,g,X5,w,M,H];exact I
 |@yes p x y z u c S i e w M=>
  intro k G q f s;obtain⟨k,rfl⟩:∃l,k=l+1:=⟨k-1,by omega⟩;simp only[Zi]at f s;have d:i<b.length:=by omega
  have a:=n.len;rw[Xr]at a;obtain⟨v,D⟩:=Xi q;have B:=fun(A:HF) (C:IntKind)=>n.idx (h:=A) (k:=C) (sz:=1) (XJ v) rfl
  have F:(Xu c).take 8=Xu c:=Zd (by rw[Xc];omega);have P:(Xu c).drop 8=[]:=Zm (by rw[Xc];omega);have O:(Xu m).take 8=Xu m:=Zd (by rw[Xc];omega);have T:=XT c;apply DF
  ·rw[Xb];simp only[Xm,Xq,Vg,reduceIte,Nat.reduceEqDiff,Nat.reduceLeDiff,Nat.reduceAdd,x148_1,a,d,B,Wk,Xc,e,Q,F,O,Wb,Wf,g,X5,w,M];rfl
  ·simp only[Xm,reduceIte,Nat.reduceEqDiff]
def rO:Option Nat->Int
 |some j=>.ofNat j
 |none=>.negSucc 0
theorem jJ {B:Xs}(d:Std B){L p:PL}{o:List (List Int)}(v:SG p o)(t:V3 o)(i:o.length<1000000){m:List Nat}(e:XE m){k:List PL}{a:List (List Qm)}(u:Sl L (Xf k))(h:Ut k a)(s:∀f∈a,f.length<100000)(r:a.length<100000):Xx B 148 [.one L,.one p,.agg (mo m)] (.one (.int .i64 (rO (Tv o m a 0)))):=by
 have l:=h.length;refine Xx.of (d.Wa _ _ rfl) (((gq d v t i e h s 0).and (d.Xj.and (X1.ge (k.length+1)))).mono fun E K ⟨e1,g,y⟩=> ?_);obtain⟨x,w,b,c⟩:=zA (K:=K) g e.1 u (by omega) e1 K [] rfl (by omega) (by omega);have q:=e.1;cases n:Tv o m a 0 with
 |none=>
  simp only[n]at b c;simp only[Xm,Xq,reduceIte,Nat.reduceEqDiff,Nat.reduceLeDiff,Nat.reduceAdd,x148,Wk,Xc,q,b,rO]
 |some j=>
  simp only[n]at b c;simp only[Xm,Xq,reduceIte,Nat.reduceEqDiff,Nat.reduceLeDiff,Nat.reduceAdd,x148,Wk,Xc,q,b,c,rO]
end Go.Proofs.YtidginchkjhobaaGreat
namespace Go.Num
inductive mi (o:List (List Int))(sz:List Qm->Prop)(ok:List Nat->Prop)(fs:List (List Qm)):List Qm->List (List Qm)->List Qm->List (List Qm)->List Qm->Prop
 |done {qs:List (List Qm)} {r:List Qm}:mi o sz ok fs [] qs r qs r
 |rem {left:List Qm} {t:Qm} {qs qs':List (List Qm)} {r r':List Qm} (c1:sz left) (c2:sz r) (c3:sz [t]) (hl:XU o left=some t) (hf:Tv o t.2 fs 0=none)
   (h:mi o sz ok fs (WB left (U3 [t])) qs (WB r [t]) qs' r'):mi o sz ok fs left qs r qs' r'
 |div {left:List Qm} {t s:Qm} {i:Nat} {f q:List Qm} {qs qs':List (List Qm)} {r r':List Qm} (c1:sz left) (c2:sz f) (c3:sz [t]) (c4:sz [s]) (c5:sz [XQ t s]) (c6:sz q) (c7:sz (XS (XQ t s).1 (XQ t s).2 f)) (c8:s.1≠0) (c9:(XQ t s).1≠0) (c10:∀u∈f,ok (Xg (XQ t s).2 u.2))
   (hl:XU o left=some t) (hf:Tv o t.2 fs 0=some i) (hi:fs[i]? =some f) (hs:XU o f=some s) (hd:WO s.2 t.2=true) (hq:qs[i]? =some q)
   (h:mi o sz ok fs (WB left (U3 (XS (XQ t s).1 (XQ t s).2 f))) (qs.set i (WB q [XQ t s])) r qs' r'):mi o sz ok fs left qs r qs' r'
end Go.Num
namespace Go.Proofs.YtidginchkjhobaaGreat
open Go.Ev Go.Num
def Pw (ts:List Qm):Prop:=Sz ts/\ts.length<50000
theorem Pw.one {t:Qm}(h:Pw [t]):Sq t.1:=h.1 t (Ze ..)
structure E8 (E:Xa)(lo L lleft lr:PL)(t1 t2 t3 t4:PL)(m:List Nat)(lf' r':List (List PL)):Prop where
 lead:E.pure 107 [.one lleft,.one lo]=some (.XZ [.agg (t1::t2::t3::t4::mo m),.one (.bool true)])
 first :E.pure 148 [.one L,.one lo,.agg (mo m)]=some (.one (.int .i64 (.negSucc 0)))
 add:E.pure 10 [.one lr,.one (.Xp [t1::t2::t3::t4::mo m])]=some (.one (.Xp r'))
 sub:E.pure 12 [.one lleft,.one (.Xp [t1::t2::t3::t4::mo m])]=some (.one (.Xp lf'))
abbrev vG (n:Nat)(lr:PL):Xz:=⟨false,0,3,[[.own 1 0 0 n,.p lr,.p (.int .i64 (.ofNat 0))]],false,153⟩
abbrev qB (lqs:List PL):Xz:=⟨false,0,1,pc (Xf lqs),false,33⟩
theorem vq {E:Xa}{K k:Nat}{g L a l x y z A:PL}{m:List Nat}{c o:List (List PL)}(f:E.mode=md)(v:m.length=8)(d:E8 E g L a l x y z A m c o){n:Nat}{j:List (List PL)}(w:Sl a j)(e:0<j.length)(h i:Xz)(G:List Xz):
  ∃q,Xb E K 0 [1,2,6,7,8] x109_1 (k+1) ⟨[(1,.one (.p L)),(2,.one (.p g)),(6,.one (.ptr 0 0 0 0)),(7,.one (.ptr 2 0 0 0)),(8,.one (.p a))],h::i::vG n l::G⟩=Xb E K 0 [1,2,6,7,8] x109_1 k ⟨[(1,.one (.p L)),(2,.one (.p g)),(6,.one (.ptr 0 0 0 0)),(7,.one (.ptr 2 0 0 0)),(8,.one (.p (.Xp c)))],h::i::vG n (.Xp o)::q⟩:=by
 have b:=w.len;have B:(Xu m).take 8=Xu m:=Zd (by rw[Xc];omega);have C:(Xu m).drop 8=[]:=Zm (by rw[Xc];omega);have D:=XT m;have r:=d.lead;have s:=d.first;have t:=d.add;have u:=d.sub;apply Exists.intro;rw[Xb];simp(decide:=true)only[Xm,Xq,Vg,Vm,reduceIte,Nat.reduceLeDiff,Nat.reduceAdd,x109_1,b,e,Wk,Xc,v,B,Wb,Wf,f,X5,PL.scalar,W5,VD,Zq,r,s,t,u];rfl
theorem tA {a:List PL}{i:Nat}{p:PL}(h:a[i]? =some p):(pc (Xf a))[i]? =some [.p p]:=by simp[pc,Xf,h]
theorem tz (a:List PL)(i:Nat)(p:PL):(pc (Xf a)).set i [.p p]=pc (Xf (a.set i p)):=by simp[pc,Xf,List.map_set]
theorem lj (a:List PL):(pc (Xf a)).length=a.length:=by simp[pc,Xf]
structure Ff (E:Xa)(lo L lleft:PL)(t1 t2 t3 t4:PL)(m:List Nat)(i:Nat)(pf:PL)(s1 s2 s3 s4:PL)(m2:List Nat)(e1 e2 e3 e4:PL)(m3:List Nat)(pq:PL)(q' pr lf':List (List PL)):Prop where
 lead:E.pure 107 [.one lleft,.one lo]=some (.XZ [.agg (t1::t2::t3::t4::mo m),.one (.bool true)])
 first :E.pure 148 [.one L,.one lo,.agg (mo m)]=some (.one (.int .i64 (.ofNat i)))
 EV:E.pure 107 [.one pf,.one lo]=some (.XZ [.agg (s1::s2::s3::s4::mo m2),.one (.bool true)])
 ER:E.pure 113 [.agg (t1::t2::t3::t4::mo m),.agg (s1::s2::s3::s4::mo m2)]=some (.agg (e1::e2::e3::e4::mo m3))
 add:E.pure 10 [.one pq,.one (.Xp [e1::e2::e3::e4::mo m3])]=some (.one (.Xp q'))
 times:E.pure 112 [.agg (e1::e2::e3::e4::mo m3),.one pf]=some (.one (.Xp pr))
 sub:E.pure 12 [.one lleft,.one (.Xp pr)]=some (.one (.Xp lf'))
theorem wF {E:Xa}{K k:Nat}{s L a z t1 t2 t3 t4 s1 s2 s3 s4 e1 e2 J M B C:PL}{m d e:List Nat}{i:Nat}{D Z g:List (List PL)}(r:E.mode=md)(W:m.length=8)(o:d.length=8)(q:e.length=8)(c:Ff E s L a t1 t2 t3 t4 m i B s1 s2 s3 s4 d e1 e2 J M e C D Z g){x:List (List PL)}(sl:Sl a x)(j:0<x.length)
  {A:List PL} (t:Sl L (Xf A)) (U:A[i]? =some B) {b:List PL} (y:b[i]? =some C) (w:Xz) (G:List Xz):
  ∃F,Xb E K 0 [1,2,6,7,8] x109_1 (k+1) ⟨[(1,.one (.p L)),(2,.one (.p s)),(6,.one (.ptr 0 0 0 0)),(7,.one (.ptr 2 0 0 0)),(8,.one (.p a))],w::qB b::vG b.length z::G⟩=Xb E K 0 [1,2,6,7,8] x109_1 k ⟨[(1,.one (.p L)),(2,.one (.p s)),(6,.one (.ptr 0 0 0 0)),(7,.one (.ptr 2 0 0 0)),(8,.one (.p (.Xp g)))],w::qB (b.set i (.Xp D))::vG b.length z::F⟩:=by
 have f:=sl.len;have tm:(Xu m).take 8=Xu m:=Zd (by rw[Xc];omega);have dk:(Xu m).drop 8=[]:=Zm (by rw[Xc];omega);have w0:=XT m;have u:(Xu d).take 8=Xu d:=Zd (by rw[Xc];omega);have H:(Xu d).drop 8=[]:=Zm (by rw[Xc];omega);have v:(Xu e).take 8=Xu e:=Zd (by rw[Xc];omega);have I:(Xu e).drop 8=[]:=Zm (by rw[Xc];omega);have l:=tA y;have n:i<b.length:=(Zb.mp y).1;have w2:=XT d;have w3:=XT e;have N:=c.lead;have O:=c.first;have P:=c.EV;have Q:=c.ER;have R:=c.add;have S:=c.times;have T:=c.sub;have X:=fun(V:HF) (Y:IntKind)=>t.idx (h:=V) (k:=Y) (sz:=1) (XJ U) rfl
 apply Exists.intro;rw[Xb];simp(decide:=true)only[Xm,Xq,Vg,Vm,reduceIte,Nat.reduceEqDiff,Nat.reduceLeDiff,Nat.reduceAdd,x109_1,f,j,Wk,Xc,W,o,q,tm,Wb,Wf,r,X5,PL.scalar,W5,VD,Zq,N,O,P,Q,R,S,T,X,Zk,u,v,l,n,tz,Nat.not_lt_zero];rfl
inductive si (E:Xa)(lo L:PL)(ls:List PL)(N:Nat):Nat->PL->List PL->PL->List PL->PL->Prop
 |done {lf:PL} {qs:List PL} {r:PL} (sl:Sl lf []) (hN:qs.length=N):si E lo L ls N 0 lf qs r qs r
 |rem {n:Nat} {lf r:PL} {qs qs':List PL} {r':PL} {t1 t2 t3 t4:PL} {m:List Nat} {lf1 r1 es:List (List PL)} (hm:m.length=8) (hr:E8 E lo L lf r t1 t2 t3 t4 m lf1 r1) (sl:Sl lf es) (hes:0<es.length)
   (h:si E lo L ls N n (.Xp lf1) qs (.Xp r1) qs' r'):si E lo L ls N (n+1) lf qs r qs' r'
 |div {n i:Nat} {lf r pf pq:PL} {qs qs':List PL} {r':PL} {t1 t2 t3 t4 s1 s2 s3 s4 e1 e2 e3 e4:PL} {m m2 m3:List Nat} {q1 pr lf1 es:List (List PL)} (hm:m.length=8) (hm2:m2.length=8) (hm3:m3.length=8)
   (hr:Ff E lo L lf t1 t2 t3 t4 m i pf s1 s2 s3 s4 m2 e1 e2 e3 e4 m3 pq q1 pr lf1) (sl:Sl lf es) (hes:0<es.length) (hL:ls[i]? =some pf) (hq:qs[i]? =some pq) (hN:qs.length=N)
   (h:si E lo L ls N n (.Xp lf1) (qs.set i (.Xp q1)) r qs' r'):si E lo L ls N (n+1) lf qs r qs' r'
theorem W9.eight {c:List PL}{t:Qm}(h:W9 c t):∃f g i j,c=f::g::i::j::mo t.2:=by
 obtain⟨a,b,d,e,rfl,-,-⟩:=h;exact⟨_,_,_,_,rfl⟩
theorem W9.Nh {c:List PL}{t:Qm}(h:W9 c t):XE t.2:=by
 obtain⟨a,b,d,e,-,-,h⟩:=h;exact h
theorem W9.one {c:List PL}{t:Qm}(h:W9 c t):PQ (.Xp [c]) [t]:=⟨[c],.Xp,.cons h .nil⟩
theorem jx {o:List (List Int)}{a:List Qm}{t:Qm}(h:XU o a=some t):0<a.length:=by
 cases a with
 |nil=>cases h
 |cons _ _=>simp
theorem Ut.get {b:List PL}{a:List (List Qm)}(h:Ut b a):∀{i:Nat} {f:List Qm},a[i]? =some f->∃p,b[i]? =some p/\PQ p f:=by
 induction h with
 |nil=>intro i f h;cases h
 |@cons x y k l e j g=>
  intro i f h;cases i with
  |zero=>rw[YZ]at h;cases h;exact⟨x,rfl,e⟩
  |succ i=>rw[Yr]at h;obtain⟨p,c,d⟩:=g h;exact⟨p,by rw[Yr];exact c,d⟩
theorem Ut.set {b:List PL}{a:List (List Qm)}(h:Ut b a){p:PL}{f:List Qm}(e:PQ p f):∀(i:Nat),Ut (b.set i p) (a.set i f):=by
 induction h with
 |nil=>intro i;exact .nil
 |@cons x y j k c d g=>
  intro i;cases i with
  |zero=>exact .cons e d
  |succ i=>exact .cons c (g i)
theorem xU {B:Xs}(m:Std B){L lo:PL}{o:List (List Int)}(T:SG lo o)(M:V3 o)(u:o.length<1000000){ls:List PL}{X:List (List Qm)}(sl:Sl L (Xf ls))(z:Ut ls X)(hl:∀f∈X,f.length<100000)(I:X.length<100000)(N:Nat)
  {left r Z:List Qm} {R v:List (List Qm)} (h:mi o Pw XE X left R r v Z):
  ∀(O C:PL) (g:List PL),PQ O left->PQ C r->Ut g R->g.length=N->∃n a l,(X1 B fun E _=>si E lo L ls N n O g C a l)/\Ut a v/\PQ l Z/\a.length=N:=by
 induction h with
 |@done R r=>
  intro O C g j P D x;obtain⟨W,S,j⟩:=j;cases j;exact⟨0,g,C,X1.of fun _ _=>.done S x,D,P,x⟩
 |@rem left t R v r Z F G c3 p hf h ih=>
  intro O C g j P D x;have l1:=F.2;have l2:=G.2;obtain⟨c,b,g1,k⟩:=Tr m T M u j (by omega);simp only[p]at k;obtain⟨rfl,k⟩:=k;have J:=k.Nh;have H:=jJ m T M u J sl z hl I;rw[hf]at H;have po:=k.one;obtain⟨r1,g4,p4⟩:=Sf m P po G.1 c3.1 (by omega) (by simp);obtain⟨A,w,p5⟩:=bA m j po F.1 c3.1 (by omega) (by simp);obtain⟨n,a,l,k1,k2,k3,k4⟩:=ih (.Xp A) (.Xp r1) g ⟨_,.Xp,p5⟩ ⟨_,.Xp,p4⟩ D x;obtain⟨W,S,j⟩:=j;obtain⟨t1,t2,t3,t4,rfl⟩:=k.eight;have y:0<W.length:=by rw[j.length];exact jx p
  exact⟨n+1,a,l,(k1.and (g1.Xj.and (H.Xj.and (g4.Xj.and w.Xj)))).mono fun E K ⟨e0,e1,U,V,e5⟩=>.rem J.1 ⟨e1,U,V,e5⟩ S y e0,k2,k3,k4⟩
 |@div left t s i f q R v r Z F G c3 c4 c5 c6 c7 c8 c9 c10 p hf hi hs hd hq h ih=>
  intro O C g j P D x;have l1:=F.2;have l2:=G.2;have l6:=c6.2;have l7:=c7.2;obtain⟨c,b,g1,k⟩:=Tr m T M u j (by omega);simp only[p]at k;obtain⟨rfl,k⟩:=k;have J:=k.Nh;have H:=jJ m T M u J sl z hl I;rw[hf]at H;obtain⟨pf,a4,Q⟩:=z.get hi;obtain⟨pq,a5,a7⟩:=D.get hq;obtain⟨d,b,g4,w⟩:=Tr m T M u Q (by omega);simp only[hs]at w;obtain⟨rfl,w⟩:=w;have a2:=w.Nh;obtain⟨e,g6,Y⟩:=bD m k w c3.one c4.one c8 hd;have a3:=Y.Nh;obtain⟨q1,g8,p8⟩:=Sf m a7 Y.one c6.1 c5.1 (by omega) (by simp);obtain⟨pr,g9,p9⟩:=PE m Y c5.one c9 Q G.1 c10 (by omega);obtain⟨A,a1,a6⟩:=bA m j ⟨pr,.Xp,p9⟩ F.1 c7.1 (by omega) (by omega);obtain⟨n,a,l,k1,k2,k3,k4⟩:=ih (.Xp A) C (g.set i (.Xp q1)) ⟨_,.Xp,a6⟩ P (D.set ⟨_,.Xp,p8⟩ i) (by rw[ZT];exact x);obtain⟨W,S,j⟩:=j;obtain⟨t1,t2,t3,t4,rfl⟩:=k.eight;obtain⟨a9,s2,s3,s4,rfl⟩:=w.eight;obtain⟨a8,e2,U,V,rfl⟩:=Y.eight;have y:0<W.length:=by rw[j.length];exact jx p
  exact⟨n+1,a,l,(k1.and (g1.Xj.and (H.Xj.and (g4.Xj.and (g6.Xj.and (g8.Xj.and (g9.Xj.and a1.Xj))))))).mono fun E K ⟨e0,e1,U,V,e6,e8,e9,a0⟩=>.div J.1 a2.1 a3.1 ⟨e1,U,V,e6,e8,e9,a0⟩ S y a4 a5 x e0,k2,k3,k4⟩
theorem EU {E:Xa}{K:Nat}(f:E.mode=md){D L:PL}{H:List PL}(A:Sl L (Xf H)){N n:Nat}{z F j:PL}{i a:List PL}(h:si E D L H N n z i F a j)(m:Xz):∀(k:Nat) (G:List Xz),n<k->
  ∃b d,Xb E K 0 [1,2,6,7,8] x109_1 k ⟨[(1,.one (.p L)),(2,.one (.p D)),(6,.one (.ptr 0 0 0 0)),(7,.one (.ptr 2 0 0 0)),(8,.one (.p z))],m::qB i::vG N F::G⟩=some (.exit 0,⟨b,m::qB a::vG N j::d⟩)/\Xh b 6=some (.one (.ptr 0 0 0 0))/\Xh b 7=some (.one (.ptr 2 0 0 0)):=by
 induction h with
 |@done z M r l B=>
  intro k G C;obtain⟨k,rfl⟩:∃g,k=g+1:=⟨k-1,by omega⟩;have e:=l.len;apply DF
  ·rw[Xb];simp only[Xm,Xq,reduceIte,Nat.reduceEqDiff,x109_1,e,Zx];rfl
  ·refine⟨?_,?_⟩<;>simp only[Xm,reduceIte,Nat.reduceEqDiff]
 |rem u x l c h y=>
  intro k G C;obtain⟨k,rfl⟩:∃g,k=g+1:=⟨k-1,by omega⟩;obtain⟨q,o⟩:=vq (K:=K) (k:=k) (n:=N) f u x l c m (qB _) G;obtain⟨b,d,s,t⟩:=y k q (by omega);exact⟨b,d,o.trans s,t⟩
 |div u v w x l c I J B h y=>
  intro k G C;obtain⟨k,rfl⟩:∃g,k=g+1:=⟨k-1,by omega⟩;obtain⟨q,o⟩:=wF (K:=K) (k:=k) f u v w x l c A I J m G;obtain⟨b,d,s,t⟩:=y k q (by omega);rw[B]at o;exact⟨b,d,o.trans s,t⟩
theorem Be (n:Nat):List.replicate n [DL.p .XC]=pc (Xf (List.replicate n .XC)):=by simp[pc,Xf]
theorem Ut.zero:∀(n:Nat),Ut (List.replicate n .XC) (List.replicate n [])
 |0=>.nil
 |n+1=>.cons ⟨[],.nil,.nil⟩ (Ut.zero n)
theorem B6 {B:Xs}(j:Std B){L r:PL}{o:List (List Int)}(N:SG r o)(F:V3 o)(m:o.length<1000000){u:List PL}{b:List (List Qm)}(s:Sl L (Xf u))(e:Ut u b)(D:∀f∈b,f.length<100000)(k:b.length<100000)(H:Xx B 22 [.one r] (.one (.bool true)))
  {lp:PL} {p v:List Qm} {i:List (List Qm)} (G:PQ lp p) (h:mi o Pw XE b p (List.replicate b.length []) [] i v):
  ∃a c,Xx B 109 [.one lp,.one L,.one r] (.agg [.Xp (Xf a),c,.int .i64 (.ofNat 0)])/\Ut a i/\PQ c v/\a.length=b.length:=by
 obtain⟨n,a,c,I,J,M,t⟩:=xU j N F m s e D k b.length h lp .XC (List.replicate b.length .XC) G ⟨[],.nil,.nil⟩ (Ut.zero _) (by rw[Ys]);have d:=s.len;have l:=e.length;rw[Xr,l]at d;refine⟨a,c,Xx.of (j.Wa _ _ rfl) ((I.and (H.Xj.and (j.Xj.and (X1.ge (n+1))))).mono fun E K ⟨e1,e2,g,Q⟩=> ?_),J,M,t⟩;obtain⟨P,O,y,z,A⟩:=EU (K:=K) g s e1 ⟨false,0,3,[[.p .XC,.p .XC,.p (.int .i64 (.ofNat 0))]],false,153⟩ K [] (by omega);have w:24*b.length<=lim:=by unfold lim;omega
 have x:b.length<=9223372036854775807:=by omega
 have C:=fun h=>VK 5 h (Xf a)
 have R:=fun h=>rH 5 h (Xf a)
 have q:(pc (Xf a)).take b.length=pc (Xf a):=Zd (by rw[lj];omega);simp(decide:=true)only[Xm,Vm,Xq,reduceIte,Nat.reduceAdd,x109,d,g,X5,e2,w,x,Be,y,z,A,lj,t,Zh,C,q]
end Go.Proofs.YtidginchkjhobaaGreat
