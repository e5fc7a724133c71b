/- What the library's sort answers at terms and any order; the same for terms with rational coefficients. -/
import Derived.Test.YtidginchkjhobaaGreatQPol
set_option maxHeartbeats 16000000
set_option maxRecDepth 100000
namespace Go.Ev
open Go.Proofs.YtidginchkjhobaaGreat Go.Proofs
def ui (o:M')(t:Qm):I'->I'
 |[]=>[t]
 |u::us=>bif Go.Ev.S6 (WY o t.2 u.2) (.ofNat 0)then u::ui o t us else t::u::us
def VI (o:M'):I'->I'
 |[]=>[]
 |t::ts=>ui o t (VI o ts)
theorem eM (o)(t):∀a,(ui o t a).Perm (t::a)
 |[]=>.refl _
 |u::us=>by
  unfold ui;cases Go.Ev.S6 (WY o t.2 u.2) (.ofNat 0)with
  |true=>exact((eM o t us).cons u).trans (List.Perm.swap ..)
  |false=>exact .refl _
theorem W0 (o):∀a,(VI o a).Perm a
 |[]=>.refl _
 |t::a=>(eM o t _).trans ((W0 o a).cons t)
theorem Bp (o)(m n):isNeg (WY o m n)=S6 (WY o m n) (.ofNat 0):=by
 rcases Sf o m n with h|h|h<;>rw[h]<;>rfl
theorem Vn.mono {c}{t}(h:Vn c t):wG c=some t.2:=by
 obtain⟨n,a,d,b,rfl,-,e⟩:=h;exact N8 e
theorem Vn.mM {c}{t}(h:Vn c t):UC c=t.2:=by unfold UC;rw[h.mono];rfl
theorem Vn.isT {c}{t}(h:Vn c t):isTerm c=true:=by unfold isTerm;rw[h.mono];rfl
theorem X6.Lc {b}{e}(h:X6 b e):TY b:=by
 induction h with
 |nil=>intro c a;cases a
 |cons h _ d=>
  intro c a;rcases Zk.1 a with rfl|a
  ·exact h.isT
  ·exact d c a
theorem X6.ins {o}{c}{t}(b:Vn c t){a}{g}(h:X6 a g):X6 (kr o c a) (ui o t g):=by
 induction h with
 |nil=>exact .cons b .nil
 |@cons d u a g f h i=>
  unfold kr ui;have e:isNeg (Tw o d c)=S6 (WY o t.2 u.2) (.ofNat 0):=by unfold Tw;rw[b.mM,f.mM];exact Bp ..
  rw[e];cases S6 (WY o t.2 u.2) (.ofNat 0)with
  |true=>exact .cons f i
  |false=>exact .cons b (.cons f h)
theorem X6.sort {o}{a}{b}(h:X6 a b):X6 (TJ o a) (VI o b):=by
 induction h with
 |nil=>exact .nil
 |cons c h d=>exact X6.ins c d
def wZ:PL->Option Int
 | .int .i64 z=>bif S6 (.negSucc 1000) z&&S6 z (.ofNat 1001)then some z else none
 |_=>none
def AA (c:N'):Option U':=bif Nat.beq c.length 8 then Xw wZ c else none
def tG:PL->Option M'
 | .Xp=>some []
 | .Xl rows=>bif Nat.blt rows.length 1000000 then Xw AA rows else none
 |_=>none
theorem Br {l}{z}(h:wZ l=some z):l=.int .i64 z/\-1000<=z/\z<=1000:=by
 unfold wZ at h;split at h
 ·obtain⟨a,rfl⟩:=X4 h;rw[Zs,Ru,Ru,decide_eq_true_eq,decide_eq_true_eq]at a
  grind
 ·cases h
theorem uh:∀{c} {r},Xw wZ c=some r->c=Vx r/\∀w∈r,-1000<=w/\w<=1000
 |[],r,h=>by cases h;exact⟨rfl,fun _ h=>by cases h⟩
 |x::c,r,h=>by
  simp only[Xw]at h;split at h
  ·cases h
  ·rename_i z b;split at h
   ·cases h
   ·rename_i i a;cases h;obtain⟨rfl,d⟩:=Br b;obtain⟨rfl,f⟩:=uh a;refine⟨rfl,fun e g=> ?_⟩
    grind
theorem Ay {c}{r}(h:AA c=some r):c=Vx r/\xQ r:=by
 obtain⟨d,a⟩:=Wq h;obtain⟨rfl,b⟩:=uh a;exact⟨rfl,by grind [bY,Zl],b⟩
theorem nr:∀{a} {o},Xw AA a=some o->a=o.map Vx/\Vq o
 |[],r,h=>by cases h;exact⟨rfl,fun _ h=>by cases h⟩
 |x::c,r,h=>by
  simp only[Xw]at h;split at h
  ·cases h
  ·rename_i z i;split at h
   ·cases h
   ·rename_i j d;cases h;obtain⟨rfl,f⟩:=Ay i;obtain⟨rfl,g⟩:=nr d;refine⟨rfl,fun e b=> ?_⟩;rcases Zk.1 b with rfl|b
    ·exact f
    ·exact g e b
theorem wy {l}{o}(h:tG l=some o):SA l o/\Vq o/\o.length<1000000:=by
 unfold tG at h;split at h
 ·cases h;exact⟨.inr ⟨rfl,rfl⟩,(fun _ h=>by cases h),by simp⟩
 ·obtain⟨a,b⟩:=Wq h;obtain⟨rfl,c⟩:=nr b;refine⟨.Xl,c,?_⟩;simpa using a
 ·cases h
theorem Ez {z}(a: -1000<=z)(b:z<=1000):wZ (.int .i64 z)=some z:=by
 have e1:S6 (.negSucc 1000) z=true:=by grind [Ru]
 have e2:S6 z (.ofNat 1001)=true:=by grind [Ru]
 grind [wZ]
theorem nW:∀{r},(∀w∈r,-1000<=w/\w<=1000)->Xw wZ (Vx r)=some r
 |[],_=>rfl
 |w::r,h=>by
  have b:=nW (r:=r) fun x a=>h x (Za _ a)
  grind [Vx,Xw,Ez]
theorem Az {r}(h:xQ r):AA (Vx r)=some r:=by
 have a:Nat.beq (Vx r).length 8=true:=by rw[bY,h.1];rfl
 simp only[AA,a,cond_true,nW h.2]
theorem sK:∀{o},Vq o->Xw AA (o.map Vx)=some o
 |[],_=>rfl
 |r::o,h=>by
  simp only[Zt,Xw,Az (h r (Zc ..)),sK fun x a=>h x (Za _ a)]
theorem D5 {l}{o}(d:SA l o)(c:Vq o)(b:o.length<1000000):tG l=some o:=by
 rcases d with rfl|⟨h,rfl⟩
 ·have a:Nat.blt (o.map Vx).length 1000000=true:=aP (by simpa using b);simp only[tG,a,cond_true,sK c]
 ·have :o=[]:=by simpa using h
  subst this;rfl
def keyOf (H:V')(i:Nat):DL->Option M'
 | .p (.fn g [])=>bif Nat.beq g 166 then some []else none
 | .fn g [.ptr j vj 0 0]=>bif Nat.beq g 170&& !Nat.beq j i then
   match H[j]? with
   |some bj=>bif !bj.mp&&Nat.beq vj bj.XW then(match bj.ch with |[[.p lo]]=>tG lo|_=>none)else none
   |none=>none
   else none
 |_=>none
def R5 (args:X')(H:V'):Option (DV×V'):=
 match args with
 |[.one (.own i XW 0 n),.one (.p (.int .i64 (.ofNat 0))),.one (.p (.int .i64 (.ofNat n2))),.one (.p (.int .i64 (.ofNat lm))),.one fn]=>
  match keyOf H i fn with
  |some o=>bif Nat.blt lm 4611686018427387904 then
   match H[i]? with
   |some b=>match Xw (Xw Gg) b.ch with
    |some es=>bif !b.mp&& !b.fz&&Nat.beq XW b.XW&&Nat.beq b.sz 12&&Nat.beq n es.length&&Nat.beq n2 es.length&&Nat.blt es.length 1000000&&es.all isTerm&&Tn es then some (.Wd [],H.set i {b with ch:=(TJ o es).map (·.map .p)})else none
    |none=>none
   |none=>none
   else none
  |none=>none
 |[.one (.p .Xp),.one (.p (.int .i64 (.ofNat 0))),.one (.p (.int .i64 (.ofNat 0))),.one (.p (.int .i64 (.ofNat lm))),.one (.fn _ _)]=>bif Nat.blt lm 4611686018427387904 then some (.Wd [],H)else none
 |_=>none
theorem uj (c):∀a,kr [] c a=ins c a
 |[]=>rfl
 |d::a=>by unfold kr ins;rw[uj c a];rfl
theorem km:∀a,TJ [] a=TU a
 |[]=>rfl
 |c::a=>by unfold TJ TU;rw[km a,uj]
theorem DT {args}{H}{r}(h:jB args H=some r):R5 args H=some r:=by
 unfold jB at h;split at h
 ·rename_i i XW n d c g;obtain⟨a,b⟩:=Wq h;rw[Zs]at a;simp only[R5,keyOf,a.1,a.2,cond_true,km];exact b
 ·cases h
structure fG (B:Xq):Prop extends Std B where
 pdq:∀args H r,R5 args H=some r->B.E0.heap 186 args H=some r
theorem xI {B}(a:Std B){f}{o}(k:SA f o)(h:Vq o)(c:o.length<1000000){x y z u x2 y2 z2 u2}{m n}(d:XA m)(e:XA n):
  Xv B 170 [.agg (x::y::z::u::mo m),.agg (x2::y2::z2::u2::mo n),.one (.ref [f])] (.one (.int .i64 (WY o n m))):=by
 have g:=N6 a k h e d c;have i:=d.1;have j:=e.1;have l:(Xu m).take 8=Xu m:=Ze (by rw[Xc];omega);have p:(Xu n).take 8=Xu n:=Ze (by rw[Xc];omega);refine Xv.of (a.Wa _ _ rfl) ((g.Xk.and a.Xk).mono fun E K ⟨e1,b⟩=> ?_);simp only[Xo,Xs,VD,reduceIte,Nat.reduceEqDiff,Nat.reduceLeDiff,Nat.reduceAdd,x170,b,X3,e1,Wj,Xc,i,j,l,p,Wc,Wg]
structure Kn (B:Xq):Prop extends Std B where
 pdq:∀args H r,jB args H=some r->B.E0.heap 186 args H=some r
theorem AV {H}{i v}{a}{c b}(h:H[i]? =some ⟨false,v,12,pc a,false,c⟩)(k:TY a)(g:Tn a=true)(l:a.length<60000)(j:b<100):
  jB [.one (.own i v 0 a.length),La1 0,La1 a.length,La1 b,La4 (.fn 166 [])] H=
   some (.Wd [],H.set i ⟨false,v,12,pc (TU a),false,c⟩):=by
 have d:Nat.blt b 4611686018427387904=true:=aP (by omega);have e:Nat.blt a.length 1000000=true:=aP (by omega);have f:a.all isTerm=true:=ZH.2 k;simp only[jB,Yw,d,h,vJ,e,f,g,Bool.and_self,Bool.not_false,cond_true];rfl
abbrev oB (lo:PL):Xx:=⟨false,0,1,[[.p lo]],false,40⟩
theorem wu {H}{i v j}{a}{f d}{e}{o}(x:SA e o)(u:Vq o)(c:o.length<1000000)(r:H[i]? =some ⟨false,v,12,pc a,false,f⟩)(s:H[j]? =some (oB e))(b:j≠i)(w:TY a)(q:Tn a=true)(y:a.length<1000000)(t:d<100):
  R5 [.one (.own i v 0 a.length),La1 0,La1 a.length,La1 d,.one (.fn 170 [.ptr j 0 0 0])] H=
   some (.Wd [],H.set i ⟨false,v,12,pc (TJ o a),false,f⟩):=by
 have g:Nat.blt d 4611686018427387904=true:=aP (by omega);have k:Nat.blt a.length 1000000=true:=aP (by omega);have l:a.all isTerm=true:=ZH.2 w;have m:Nat.beq j i=false:=by
  cases h:Nat.beq j i with
  |false=>rfl
  |true=>exact absurd (Zl h) b
 have n:=D5 x u c;simp only[R5,keyOf,Yw,g,m,n,r,s,vJ,k,l,q,Bool.and_self,Bool.not_false,cond_true];rfl
theorem Ag {B}(b:fG B){H}{i v j}{a}{h}{g}{o}(u:SA g o)(s:Vq o)(f:o.length<1000000)(q:H[i]? =some ⟨false,v,12,pc a,false,h⟩)(r:H[j]? =some (oB g))(e:j≠i)(t:TY a)(p:Tn a=true)(w:a.length<60000):
  Uu B 169 [.one (.own i v 0 a.length),.one (.fn 170 [.ptr j 0 0 0])] H (.Wd []) (H.set i ⟨false,v,12,pc (TJ o a),false,h⟩):=by
 obtain⟨x,c,l⟩:=NC b.toStd (n:=a.length) (by omega);have m:=Uu.base (B:=B) (b.pdq _ _ _ (wu u s f q r e t p (by omega) c));have k:a.length%18446744073709551616=a.length:=Zi (by omega);refine Uu.of (b.Wa _ _ rfl) ((l.Xk.and (m.Xk.and b.toStd.Xk)).mono fun E K ⟨e1,e2,d⟩=> ?_);simp only[Xo,Vv,Xs,reduceIte,Nat.reduceEqDiff,Nat.reduceLeDiff,Nat.reduceAdd,x169,d,X3,e1,e2,k]
theorem xM {B}(f:Std B){es}(b:∀c∈es,c.length=12)(q:es.length<1000000)(e):
  Uu B 168 [La4 (.Xl es)] [e] (.one (.own 1 1 0 es.length)) [e,⟨false,1,12,pc es,false,75⟩]:=by
 have a:=fun(h:HF)=>(Sl.Xl (es:=es)).chunks (h:=h)
 have i:es.length*128<=lim:=by unfold lim;omega
 have j:es.length<=9223372036854775807:=by omega
 have o:Uz false [La4 (.Xl es),La4 .Xp]=some ⟨La4 (.bool false),[],[],[]⟩:=rfl;have k:(es.map (·.map DL.p)).all (fun c=>decide (c.length=12))=true:=by
  rw[ZH];intro c g;simp only[ZM]at g;obtain⟨d,m,rfl⟩:=g;simp[b d m]
 have l:(es.map (·.map DL.p)).length=es.length:=by simp
 refine Uu.of (f.Wa _ _ rfl) (f.Xk.mono fun E K n=> ?_);simp only[Xo,Vv,Xs,reduceIte,Nat.reduceEqDiff,Nat.reduceLeDiff,Nat.reduceAdd,x168,a,i,j,o,k,l,pc]
theorem Ah {B}(a:fG B){H}{g}{caps}:Uu B 169 [La4 .Xp,.one (.fn g caps)] H (.Wd []) H:=by
 obtain⟨c,f,d⟩:=NC a.toStd (n:=0) (by omega);have h0:Nat.blt c 4611686018427387904=true:=aP (by omega);have e:=Uu.base (B:=B) (a.pdq [La4 .Xp,La1 0,La1 0,La1 c,.one (.fn g caps)] H (.Wd [],H) (by simp only[R5,h0,cond_true]));refine Uu.of (a.Wa _ _ rfl) ((d.Xk.and (e.Xk.and a.toStd.Xk)).mono fun E K ⟨e1,e2,b⟩=> ?_);simp only[Xo,Vv,Xs,reduceIte,Nat.reduceEqDiff,Nat.reduceLeDiff,Nat.reduceAdd,x169,b,X3,e1,e2]
theorem xN {B}(a:Std B)(H):Uu B 168 [La4 .Xp] H (La4 .Xp) H:=by
 have c:Uz false [La4 .Xp,La4 .Xp]=some ⟨La4 (.bool true),[],[],[]⟩:=rfl;refine Uu.of (a.Wa _ _ rfl) (a.Xk.mono fun E K b=> ?_);simp only[Xo,Vv,Xs,reduceIte,Nat.reduceEqDiff,Nat.reduceLeDiff,x168,c]
def S3 (ts:I'):Prop:=(ts.map (·.2)).Nodup
theorem gv:∀{e} {a},X6 e a->S3 a->Tn e=true
 |_,_,.nil,_=>rfl
 |_,_,.cons (x:=c) (y:=t) hc h,hd=>by
  obtain⟨l,m⟩:=List.nodup_cons.1 hd;simp only[Tn,Zs];refine⟨ZH.2 fun d f=> ?_,gv h m⟩;obtain⟨i,g⟩:=Zv.1 f;have j:=h.length;obtain⟨o,-⟩:=Zg.1 g;rename_i e a;have b:i<a.length:=by omega
  obtain⟨x,k,p⟩:=h.get i _ (Zd b);rw[g]at k;cases k;rw[hc.mM,p.mM];cases n:kS Nat.beq t.2 (a[i]).2 with
  |false=>rfl
  |true=>
   exfalso;apply l;show t.2∈a.map (·.2);rw[ig (fun _ _=>Zl) _ _ n];exact ZM.2 ⟨_,Ya b,rfl⟩
theorem SR {B}(b:fG B){w f}{m}{o}(F:SA f o)(C:Vq o)(t:o.length<1000000)(d:PQ w m)(z:S3 m)(I:m.length<60000):
  ∃r,Xv B 140 [.one w,.one f] (.one r)/\PQ r (VI o m):=by
 obtain⟨a,D,d⟩:=d;have G:=d.length;have k:Tk 170 [.one (.ptr 0 0 0 0)]=some ⟨.one (.fn 170 [.ptr 0 0 0 0]),[],[],[]⟩:=rfl;rcases D with rfl|⟨rfl,rfl⟩
 ·have s:=gv d z;have x:=d.Lc;have p:∀c∈a,c.length=12:=fun c y=>Q3.len (X6.cU d c y)
  have n:=xM b.toStd p (by omega) (oB f);have q:=Ag b F C t (H:=[oB f,⟨false,1,12,pc a,false,75⟩]) (i:=1) (j:=0) (v:=1) rfl rfl (by decide) x s (by omega);have l:(TJ o a).length=a.length:=(RJ a).length_eq;refine⟨.Xl (TJ o a),Xv.of (b.Wa _ _ rfl) ((n.Xk.and (q.Xk.and b.toStd.Xk)).mono fun E K ⟨e1,e2,e⟩=> ?_),⟨_,.Xl,d.sort⟩⟩;have u:=WT (TJ o a) (Yv l);have A:=fun h=>Vb 5 h (TJ o a)
  simp only[Xo,Vv,Xs,reduceIte,Nat.reduceEqDiff,Nat.reduceLeDiff,Nat.reduceAdd,x140,k,e,X3,e1,e2,u,A,WB,l,Zf]
 ·cases d;have n:=xN b.toStd [oB f];have q:=Ah b (H:=[oB f]) (g:=170) (caps:=[.ptr 0 0 0 0]);refine⟨.Xp,Xv.of (b.Wa _ _ rfl) ((n.Xk.and (q.Xk.and b.toStd.Xk)).mono fun E K ⟨e1,e2,e⟩=> ?_),⟨[],.nil,.nil⟩⟩;simp only[Xo,Vv,Xs,reduceIte,Nat.reduceEqDiff,Nat.reduceLeDiff,Nat.reduceAdd,x140,k,e,X3,e1,e2]
def mQ:N':=[(.bool false),.Xp,(.bool false),.Xp,(La0 0),(La0 0),(La0 0),(La0 0),(La0 0),(La0 0),(La0 0),(La0 0)]
def AG:RM where
 m:=0
 m2:=9
 it:=10
 nx:=11
 ok:=12
 en:=13
 b:=0
 b2:=1
 VY:=8
 ntmps:=28
 results:=[(2,none)]
 DI:=.region false [⟨(some 2),.move,[(.c (.one .Xp))],none,[]⟩]
 DH:=.region false [⟨(some 6),.move,[(.t 0)],none,[]⟩,⟨(some 7),.Ng,[(.t 6)],none,[]⟩,⟨(some 8),(.makeSlice 75 mQ 128),[(.c (.one (La0 0))),(.t 7)],none,[]⟩,⟨(some 3),.move,[(.t 8)],none,[]⟩]
 post:=.seq (.region false [⟨(some 25),.move,[(.t 3)],none,[]⟩,⟨(some 26),(.call 165),[(.t 25),(.c (.one (.fn 166 [])))],none,[]⟩]) (.seq (.region false [⟨(some 27),.move,[(.t 3)],none,[]⟩,⟨(some 2),.move,[(.t 27)],none,[]⟩]) .ret)
 tail:=[⟨(some 14),(.extract 0),[(.t 13)],none,[0]⟩,⟨(some 15),(.extract 1),[(.t 13)],none,[0]⟩,⟨(some 4),(.alloc 73 [(La0 0),(La0 0),(La0 0),(La0 0),(La0 0),(La0 0),(La0 0),(La0 0)]),[],none,[]⟩,⟨(some 5),(.alloc 48 [(.bool false),.Xp,(.bool false),.Xp]),[],none,[]⟩,⟨none,(.store 8),[(.t 4),(.t 14)],none,[3,1,0,1,3,4]⟩,⟨none,(.store 4),[(.t 5),(.t 15)],none,[4,2,5,0,1,2,3,4,5]⟩]
 rb:=.seq (.region false [⟨(some 16),(.load true 4),[(.t 5)],none,[]⟩,⟨(some 17),(.call 158),[(.t 16)],none,[]⟩,⟨(some 18),(.bin .neq),[(.t 17),(.c (.one (La0 0)))],none,[]⟩]) (.cond (.t 18) (.region false [⟨(some 19),.move,[(.t 3)],none,[]⟩,⟨(some 20),(.load true 4),[(.t 5)],none,[]⟩,⟨(some 21),(.load true 8),[(.t 4)],none,[]⟩,⟨(some 22),(.build mQ [(0,4),(4,8)]),[(.t 20),(.t 21)],none,[]⟩,⟨(some 23),(.buildSlice 75 mQ 1 [0]),[(.t 22)],none,[]⟩,⟨(some 24),(.append 75 12 128),[(.t 19),(.t 23)],none,[]⟩,⟨(some 3),.move,[(.t 24)],none,[]⟩]) .skip)
theorem Jd:FR Tryz.prog 132 AG:=by
 refine⟨⟨Tryz.f132,_,_,_,_,_,_,_,_,_,_,_,_,_,Tryz.func132,rfl,by kernel_rfl,by kernel_rfl,by kernel_rfl,by kernel_rfl,by kernel_rfl,by kernel_rfl,?_⟩⟩;refine⟨⟨rfl,rfl,rfl⟩,⟨_,rfl,rfl,rfl,73,48,by kernel_rfl⟩,⟨rfl,rfl,rfl⟩,⟨rfl,rfl,rfl⟩,⟨rfl,rfl,rfl⟩,by kernel_rfl,by kernel_rfl,?_,?_⟩
 ·exact⟨by decide,by decide,by decide,by decide,by decide⟩
 ·exact⟨by decide,by decide,by decide⟩
open Go.RowKit
theorem tR {c d:Type}{f:c->Option d}{p:d->Prop}:∀{l:List c},(∀x∈l,∃y,f x=some y/\p y)->∃b,Xw f l=some b/\∀y∈b,p y
 |[],_=>⟨[],rfl,fun _ h=>by cases h⟩
 |x::l,h=>by
  obtain⟨y,e,g⟩:=h x (by simp);obtain⟨b,i,j⟩:=tR fun z a=>h z (Za _ a)
  refine⟨y::b,by simp only[Xw,e,i],fun z a=> ?_⟩;rcases Zk.1 a with rfl|a
  ·exact g
  ·exact j z a
theorem aY {a:Type}:∀l (p:a×List a),p∈Px l->(p.1::p.2).Perm l
 |[],p,h=>by simp[Px]at h
 |x::l,p,h=>by
  simp only[Px,Zk,ZM]at h;rcases h with rfl|⟨q,hq,rfl⟩
  ·exact .refl _
  ·exact(List.Perm.swap ..).trans ((aY l q hq).cons x)
theorem kL {E:Xa}{K:Nat}{e:RM}{a:Nat}(Inv:K'->St->Prop)(b:∀l s,Inv l s->∀p∈Px l,∃d,SH E K e a s p.1=some d/\Inv p.2 d):
  ∀(n:Nat) (l:K') (s:St),l.length=n->Inv l s->∃i,Ow E K e a n l s=some i/\∀s∈i,Inv [] s
 |n,[],s,_,hi=>⟨[s],by cases n<;>rfl,fun t g=>by simp at g;subst g;exact hi⟩
 |0,_::_,_,h,_=>by simp at h
 |n+1,c::cs,s,h,hi=>by
  have w:=kL Inv b n;obtain⟨k,u,v⟩:=tR (f:=fun p=>match SH E K e a s p.1 with
   |some d=>Ow E K e a n p.2 d
   |none=>none) (p:=fun i=>∀s∈i,Inv [] s) (l:=Px (c::cs)) fun p o=>by
    obtain⟨d,e1,e2⟩:=b _ s hi p o;have j:p.2.length=n:=by
     have:=(aY _ p o).length_eq;simp at this h;omega
    obtain⟨i,q,r⟩:=w p.2 d j e2;exact⟨i,by simp only[e1,q],r⟩
  have m:Ow E K e a (n+1) (c::cs) s=(match Xw (fun p=>match SH E K e a s p.1 with
   |some d=>Ow E K e a n p.2 d
   |none=>none) (Px (c::cs))with |some k=>some k.flatten|none=>none):=rfl
  rw[u]at m;refine⟨k.flatten,m,fun t g=> ?_⟩;obtain⟨l,j,g⟩:=List.mem_flatten.1 g;exact v l j t g
theorem Oq (H:V')(O:BS)(g:Nat->Nat):Live O g (Xj (H.map VT))=O:=by
 funext q;refine propext ⟨?_,.inl⟩;rintro (f|⟨i,d,a,e,_⟩)
 ·exact f
 ·simp only[Xj,ZR]at a;cases b:H[i]? with
  |none=>simp[b]at a
  |some c=>simp only[b,Ym,Zb]at a;subst a;simp[VT]at e
theorem Ia {P:Program}{f:Nat}{H:V'}{id:Nat}{b:Xx}{r:PV}(h:CH P f [.one (.mp 0)] [VT b] (inj r) [VT b])(X:H[id]? =some b)(hm:b.mp=true)(hp:∀c∈b.ch,∀d∈c,∃l,d=.p l):
  CH P f [.one (.mp id)] H (inj r) (H.map VT):=by
 intro w O g vs J o;obtain⟨W,I⟩:=eY (w':=w) J (List.range H.length) (Zf _) (fun _ _=>rfl) rfl rfl rfl;rw[<-vr]at W I;have M:Xj H id=some b:=X;have L:Xj (H.map VT) id=some (VT b):=by simp only[Xj,ZR];rw[X];rfl
 have z:Live O (fun _=>g id) (Xj [VT b])=O:=Oq [b] O _;have A:=Oq H O g;have D:∀v l,XH w O g (Xj (H.map VT)) v (.p l)->XH w O (fun _=>g id) (Xj [VT b]) v (.p l):=by
  intro v l S;cases S with |p _ _ B=>exact .p _ _ (by rw[z];rw[A]at B;exact B)
 have K:X1 w O (fun _=>g id) (Xj [VT b]):=by
  have h0:∀i x,Xj [VT b] i=some x->i=0/\x=VT b:=by
   intro i x n;cases i with
   |zero=>simp[Xj]at n;exact⟨rfl,n.symm⟩
   |succ i=>simp[Xj]at n
  refine⟨fun i x n=> ?_,fun i j x y n hy _=>by rw[(h0 i x n).1,(h0 j y hy).1],fun i x n=>J.Rl id b M,J.lt⟩;obtain⟨rfl,rfl⟩:=h0 i x n;have m:=I.RV id _ L;unfold Wx at m⊢;have R:(VT b).mp=true:=hm;rw[R,if_pos rfl]at m⊢;by_cases ht:Nat.beq (VT b).ty 2=true
  ·rw[if_pos ht]at m⊢;exact m
  ·rw[if_neg ht]at m⊢;obtain⟨es,G,e1,e2,V⟩:=m;refine⟨es,G,e1,e2,XE.Uq V.length fun i e c N Y=> ?_⟩;obtain⟨e',u,kv,xv,q1,q2,q3,q4⟩:=V.get i c Y;rw[N]at u;cases u;refine⟨kv,xv,q1,q2,q3,XE.Uq q4.length fun j v d T Z=> ?_⟩;obtain⟨l,rfl⟩:=hp c (Zh Y) d (Zh Z);obtain⟨v',C,S⟩:=q4.get j _ Z;rw[T]at C;cases C;exact D _ _ S
 have a:XE (XF w O (fun _=>g id) (Xj [VT b])) vs [.one (.mp 0)]:=by
  cases o with |cons E t=> ?_
  cases t;refine .cons ?_ .nil;have E:XH w O g (Xj H) _ (.mp id):=E;generalize a2:(‹Value›:Value)=v1 at E;cases E with |mp _ _ _ _=>exact XH.mp 0 (VT b) rfl hm
 refine(h w O (fun _=>g id) vs K a).mono fun e F ⟨v,U,N,T,a0,q⟩=> ?_
 have Q:Live O U (Xj [VT b])=O:=Oq [b] O _;have s:∀k,k<w.heap.size->F.heap[k]? =w.heap[k]? :=by
  intro k m;by_cases ho:O k
  ·exact q.aK k ho
  ·exact q.keeps.VS k m (by rw[z];exact ho)
 obtain⟨gm,gi⟩:=Tr (w':=F) I q.keeps.size s q.os q.tape q.output;refine⟨v,g,N,eQ (fun v l B=> ?_) T,gi,W.trans gm⟩;rw[Q]at B;rw[A];exact B
def fu (c:Y'):Option N':=
 match Xw Gg c with
 |some l=>match l.drop 8 with
  |[.bool n,y,z,u]=>match y with
   | .Xp=>bif isTerm (.bool n::y::z::u::l.take 8)then some (.bool n::y::z::u::l.take 8)else none
   | .Xl _=>bif isTerm (.bool n::y::z::u::l.take 8)then some (.bool n::y::z::u::l.take 8)else none
   |_=>none
  |_=>none
 |none=>none
def nz (t:N'):Bool:=match t with
 |_::.Xl (_::_)::_=>true
 |_=>false
def Qd (args:X')(H:V'):Option (DV×V'):=
 match args with
 |[.one (.mp i)]=>match H[i]? with
  |some b=>bif b.mp&&Nat.beq b.ty 1&&Nat.beq b.sz 8&&Nat.blt b.ch.length 60000 then
    match Xw fu b.ch with
    |some ts=>bif Tn ts then some (inj (.one (.Xl (TU (ts.filter nz)))),H.map VT)else none
    |none=>none
   else none
  |none=>none
 |_=>none
theorem ar {c}{t}(h:fu c=some t):∃n y z u m a,c=Xu m++[.p (.bool n),.p y,.p z,.p u]/\t=.bool n::y::z::u::mo m/\XA m/\Sl y a/\nz t= !a.isEmpty:=by
 unfold fu at h;split at h
 ·rename_i l d;have f:=o6 d;split at h
  ·rename_i n y z u g;have key:∀a,Sl y a->(bif isTerm (.bool n::y::z::u::l.take 8)then some (.bool n::y::z::u::l.take 8)else none)=some t->nz (.bool n::y::z::u::l.take 8)= !a.isEmpty->∃n y z u m a,c=Xu m++[.p (.bool n),.p y,.p z,.p u]/\t=.bool n::y::z::u::mo m/\XA m/\Sl y a/\nz t= !a.isEmpty:=by
    intro a j h k;obtain⟨b,rfl⟩:=X4 h;obtain⟨q,r,s,o,e,i⟩:=Wt b
    grind [List.take_append_drop,Wj]
   split at h
   ·exact key [] .nil h rfl
   ·rename_i a;exact key a .Xl h (by cases a<;>rfl)
   ·cases h
  ·cases h
 ·cases h
theorem C5 {B}(b:Std B){n}{y z u}{d}(e:Sl y d):
  ∃s,Xv B 158 [.agg [.bool n,y,z,u]] (.one (.int .i64 s))/\Nr s (.ofNat 0)=d.isEmpty:=by
 have key:∃s,Xv B 146 [.agg [.bool n,y]] (.one (.int .i64 s))/\Nr s (.ofNat 0)=d.isEmpty:=by
  cases d with
  |nil=>
   refine⟨.ofNat 0,Xv.of (b.Wa _ _ rfl) (b.Xk.mono fun E K a=> ?_),rfl⟩;simp only[Xo,Xs,reduceIte,Nat.reduceEqDiff,Nat.reduceLeDiff,Nat.reduceAdd,x146,e.len]
  |cons c d=>
   have h0:¬d.length+1=0:=by omega
   cases n with
   |true=>
    refine⟨.negSucc 0,Xv.of (b.Wa _ _ rfl) (b.Xk.mono fun E K a=> ?_),rfl⟩;simp only[Xo,Xs,reduceIte,Nat.reduceEqDiff,Nat.reduceLeDiff,Nat.reduceAdd,x146,e.len,h0]
   |false=>
    refine⟨.ofNat 1,Xv.of (b.Wa _ _ rfl) (b.Xk.mono fun E K a=> ?_),rfl⟩;simp only[Xo,Xs,reduceIte,Nat.reduceEqDiff,Nat.reduceLeDiff,Nat.reduceAdd,x146,e.len,h0]
 obtain⟨s,f,g⟩:=key;refine⟨s,Xv.of (b.Wa _ _ rfl) ((f.Xk.and b.Xk).mono fun E K ⟨e1,a⟩=> ?_),g⟩;simp only[Xo,Xs,reduceIte,Nat.reduceEqDiff,Nat.reduceLeDiff,Nat.reduceAdd,x158,a,X3,e1]
theorem Cn {a b:Type}{p q:a->b->Prop}{x}{y}(h:p x y)(k:q x y):∃x y,p x y/\q x y:=⟨x,y,h,k⟩
abbrev KF:Xx:=⟨true,0,0,[],true,2⟩
theorem Dg {E}{K}(f:E.mode=md){n}{y z u}{m}(q:m.length=8){s}(r:E.pure 158 [.agg [.bool n,y,z,u]]=some (.one (.int .i64 s)))(h0:Nr s (.ofNat 0)=false)
  {B0} {T} {v} {o} {G} (A:o.length<100000) (g:Xi T 3=some (.one (.own 1 v 0 o.length))) (d:Xi T 10=some (.one (.ptr 2 0 0 0))):
  ∃e h,SH E K AG 2 ⟨T,B0::⟨false,v,12,pc o,false,75⟩::KF::G⟩ (Xu m++[.p (.bool n),.p y,.p z,.p u])=some ⟨e,B0::⟨false,v+1,12,pc (o++[.bool n::y::z::u::mo m]),false,75⟩::KF::h⟩/\
   Xi e 3=some (.one (.own 1 (v+1) 0 (o.length+1)))/\Xi e 10=some (.one (.ptr 2 0 0 0)):=by
 have t:(Xu m++[DL.p (.bool n),.p y,.p z,.p u]).take 8=Xu m:=by grind [Xc]
 have i:(Xu m++[DL.p (.bool n),.p y,.p z,.p u]).drop 8=[.p (.bool n),.p y,.p z,.p u]:=by
  grind
 have w:(Xu m).take 8=Xu m:=Ze (by rw[Xc];omega);have x:(Xu m).drop 8=[]:=Zo (by rw[Xc];omega);have j:(o.length+1)*128<=lim:=by unfold lim;omega
 have k:o.length+1<=9223372036854775807:=by omega
 have l:∀(a b c:Xx),(G++[a,b]++[c])[G.length+2]? =some c:=by intro a b c;simp
 apply Cn
 ·unfold SH;simp only[Xo,Xs,VD,AG,mQ,t,i,reduceIte,Nat.reduceEqDiff,Nat.reduceLeDiff,Nat.reduceLT,Nat.reduceAdd,g,d,q,Xc,w,f,X3,r,h0,j,k,WB,VR,l,wW];rfl
 ·simp only[Xo,reduceIte,Nat.reduceEqDiff,g,d,and_self]
theorem GI {E}{K}(c:E.mode=md){n}{y z u}{m}(g:m.length=8){s}(h:E.pure 158 [.agg [.bool n,y,z,u]]=some (.one (.int .i64 s)))(h0:Nr s (.ofNat 0)=true)
  {B0} {T} {v} {o} {G} (f:Xi T 3=some (.one (.own 1 v 0 o.length))) (a:Xi T 10=some (.one (.ptr 2 0 0 0))):
  ∃b d,SH E K AG 2 ⟨T,B0::⟨false,v,12,pc o,false,75⟩::KF::G⟩ (Xu m++[.p (.bool n),.p y,.p z,.p u])=some ⟨b,B0::⟨false,v,12,pc o,false,75⟩::KF::d⟩/\
   Xi b 3=some (.one (.own 1 v 0 o.length))/\Xi b 10=some (.one (.ptr 2 0 0 0)):=by
 have i:(Xu m++[DL.p (.bool n),.p y,.p z,.p u]).take 8=Xu m:=by grind [Xc]
 have e:(Xu m++[DL.p (.bool n),.p y,.p z,.p u]).drop 8=[.p (.bool n),.p y,.p z,.p u]:=by
  grind
 have k:(Xu m).take 8=Xu m:=Ze (by rw[Xc];omega);have j:(Xu m).drop 8=[]:=Zo (by rw[Xc];omega);apply Cn
 ·unfold SH;simp only[Xo,Xs,VD,AG,mQ,i,e,reduceIte,Nat.reduceEqDiff,Nat.reduceLeDiff,Nat.reduceAdd,a,g,Xc,c,X3,h,h0,wW];rfl
 ·simp only[Xo,reduceIte,Nat.reduceEqDiff,f,a,and_self]
theorem Ai {B}(b:Kn B){L}(h:L<60000):XT B fun E _=>∀H i v e a,a.length=L->H[i]? =some ⟨false,v,12,pc a,false,e⟩->TY a->Tn a=true->
  E.heap 165 [.one (.own i v 0 a.length),La4 (.fn 166 [])] H=some (.Wd [],H.set i ⟨false,v,12,pc (TU a),false,e⟩):=by
 obtain⟨w,c,g⟩:=NC b.toStd (n:=L) (by omega);obtain⟨N,k⟩:=g.Xk;obtain⟨M,j⟩:=b.toStd.Xk;refine⟨max N M+1,fun K n t u=> ?_⟩;rcases n with _|n;omega;have e1:=k K n (by omega) (by omega);have d:=j K n (by omega) (by omega);intro H i v e a m o q l;subst m;have e2:(B.E K n).heap _ _ _=_:=(B.H9 (K:=0) (n:=0) (Zw K) (Zw n)).heap _ _ _ _ (b.pdq _ _ _ (AV o q l h c));have f:a.length%18446744073709551616=a.length:=Zi (by omega);show(match B.X 165 with
  |some s=>VN (B.E K n) K s [.one (.own i v 0 a.length),La4 (.fn 166 [])] H
  |none=>(B.E K n).heap 165 [.one (.own i v 0 a.length),La4 (.fn 166 [])] H)=_
 rw[b.toStd.Wa 165 x165 rfl];simp only[Xo,Vv,Xs,reduceIte,Nat.reduceEqDiff,Nat.reduceLeDiff,Nat.reduceAdd,x165,d,X3,e1,e2,f]
def H7 (E:Xa)(ts:Z'):Prop:=∀t∈ts,∀n y z u m,t=.bool n::y::z::u::m->∃s,E.pure 158 [.agg [.bool n,y,z,u]]=some (.one (.int .i64 s))/\Nr s (.ofNat 0)= !nz t
theorem nl {B}(g:Std B):∀{ch} {b},Xw fu ch=some b->XT B fun E _=>H7 E b
 |[],b,h=>by cases h;exact XT.of fun _ _ t d=>by cases d
 |c::ch,b,h=>by
  simp only[Xw]at h;split at h
  ·cases h
  ·rename_i t d;split at h
   ·cases h
   ·rename_i p f;cases h;obtain⟨n,y,z,u,m,w,-,rfl,-,j,A⟩:=ar d;obtain⟨s,i,x⟩:=C5 g (n:=n) (z:=z) (u:=u) j;refine((nl g f).and i.Xk).mono fun E K ⟨e1,e2⟩ o a l r v q k e=> ?_
    rcases Zk.1 a with rfl|a
    ·grind
    ·exact e1 o a l r v q k e
