/- What the library's sort answers at terms and any order; the same for terms with rational coefficients. -/
import Derived.Test.YtidginchkjhobaaGreatQPol
set_option maxHeartbeats 16000000
set_option maxRecDepth 100000
namespace Go.Num
def oJ (o:List (List Int))(t:Qm):List Qm->List Qm
 |[]=>[t]
 |u::us=>bif Go.Ev.Tf (WC o t.2 u.2) (.ofNat 0)then u::oJ o t us else t::u::us
def Vu (o:List (List Int)):List Qm->List Qm
 |[]=>[]
 |t::ts=>oJ o t (Vu o ts)
theorem bP (o:List (List Int))(t:Qm):∀a,(oJ o t a).Perm (t::a)
 |[]=>.refl _
 |u::us=>by
  unfold oJ;cases Go.Ev.Tf (WC o t.2 u.2) (.ofNat 0)with
  |true=>exact((bP o t us).cons u).trans (List.Perm.swap ..)
  |false=>exact .refl _
theorem Vh (o:List (List Int)):∀a,(Vu o a).Perm a
 |[]=>.refl _
 |t::a=>(bP o t _).trans ((Vh o a).cons t)
end Go.Num
namespace Go.Proofs.YtidginchkjhobaaGreat
open Go.Ev Go.Num
theorem wa (o:List (List Int))(m n:List Nat):isNeg (WC o m n)=Tf (WC o m n) (.ofNat 0):=by
 rcases Vy o m n with h|h|h<;>rw[h]<;>rfl
theorem W9.mono {c:List PL}{t:Qm}(h:W9 c t):rj c=some t.2:=by
 obtain⟨n,a,d,b,rfl,-,e⟩:=h;exact OD e
theorem W9.mM {c:List PL}{t:Qm}(h:W9 c t):VT c=t.2:=by unfold VT;rw[h.mono];rfl
theorem W9.Gy {c:List PL}{t:Qm}(h:W9 c t):isTerm c=true:=by unfold isTerm;rw[h.mono];rfl
theorem X4.EG {b:List (List PL)}{e:List Qm}(h:X4 b e):Tk b:=by
 induction h with
 |nil=>intro c a;cases a
 |cons h _ d=>
  intro c a;rcases Zj.1 a with rfl|a
  ·exact h.Gy
  ·exact d c a
theorem X4.ins {o:List (List Int)}{c:List PL}{t:Qm}(b:W9 c t){a:List (List PL)}{g:List Qm}(h:X4 a g):X4 (fW o c a) (oJ o t g):=by
 induction h with
 |nil=>exact .cons b .nil
 |@cons d u a g f h i=>
  unfold fW oJ;have e:isNeg (UF o d c)=Tf (WC o t.2 u.2) (.ofNat 0):=by unfold UF;rw[b.mM,f.mM];exact wa ..
  rw[e];cases Tf (WC o t.2 u.2) (.ofNat 0)with
  |true=>exact .cons f i
  |false=>exact .cons b (.cons f h)
theorem X4.sort {o:List (List Int)}{a:List (List PL)}{b:List Qm}(h:X4 a b):X4 (U7 o a) (Vu o b):=by
 induction h with
 |nil=>exact .nil
 |cons c h d=>exact X4.ins c d
def rE:PL->Option Int
 | .int .i64 z=>bif Tf (.negSucc 1000) z&&Tf z (.ofNat 1001)then some z else none
 |_=>none
def vf (c:List PL):Option (List Int):=bif Nat.beq c.length 8 then Xt rE c else none
def nT:PL->Option (List (List Int))
 | .XC=>some []
 | .Xp rows=>bif Nat.blt rows.length 1000000 then Xt vf rows else none
 |_=>none
theorem wb {l:PL}{z:Int}(h:rE l=some z):l=.int .i64 z/\-1000<=z/\z<=1000:=by
 unfold rE at h;split at h
 ·obtain⟨a,rfl⟩:=Xv h;rw[Zs,WR,WR,decide_eq_true_eq,decide_eq_true_eq]at a;refine⟨rfl,?_,?_⟩
  ·have:=a.1;omega
  ·have:=a.2;simp only[ZD]at this;omega
 ·cases h
theorem oI:∀{c:List PL} {r:List Int},Xt rE c=some r->c=UE r/\∀w∈r,-1000<=w/\w<=1000
 |[],r,h=>by cases h;exact⟨rfl,fun _ h=>by cases h⟩
 |x::c,r,h=>by
  simp only[Xt]at h;split at h
  ·cases h
  ·rename_i z g;split at h
   ·cases h
   ·rename_i i b;cases h;obtain⟨rfl,d⟩:=wb g;obtain⟨rfl,f⟩:=oI b;refine⟨rfl,fun e a=> ?_⟩;rcases Zj.1 a with rfl|a
    ·exact d
    ·exact f e a
theorem vd {c:List PL}{r:List Int}(h:vf c=some r):c=UE r/\wV r:=by
 obtain⟨a,b⟩:=X3 h;obtain⟨rfl,d⟩:=oI b;exact⟨rfl,by simpa[UL]using Zl a,d⟩
theorem jd:∀{a:List (List PL)} {o:List (List Int)},Xt vf a=some o->a=o.map UE/\V3 o
 |[],r,h=>by cases h;exact⟨rfl,fun _ h=>by cases h⟩
 |x::c,r,h=>by
  simp only[Xt]at h;split at h
  ·cases h
  ·rename_i z i;split at h
   ·cases h
   ·rename_i j d;cases h;obtain⟨rfl,f⟩:=vd i;obtain⟨rfl,g⟩:=jd d;refine⟨rfl,fun e b=> ?_⟩;rcases Zj.1 b with rfl|b
    ·exact f
    ·exact g e b
theorem qY {l:PL}{o:List (List Int)}(h:nT l=some o):SG l o/\V3 o/\o.length<1000000:=by
 unfold nT at h;split at h
 ·cases h;exact⟨.inr ⟨rfl,rfl⟩,(fun _ h=>by cases h),by simp⟩
 ·obtain⟨a,b⟩:=X3 h;obtain⟨rfl,c⟩:=jd b;refine⟨.Xp,c,?_⟩;simpa using a
 ·cases h
theorem zi {z:Int}(a: -1000<=z)(b:z<=1000):rE (.int .i64 z)=some z:=by
 have e1:Tf (.negSucc 1000) z=true:=by rw[WR,decide_eq_true_eq];omega
 have e2:Tf z (.ofNat 1001)=true:=by rw[WR,decide_eq_true_eq];simp only[ZD];omega
 simp only[rE,e1,e2,YU,cond_true]
theorem jA:∀{r:List Int},(∀w∈r,-1000<=w/\w<=1000)->Xt rE (UE r)=some r
 |[],_=>rfl
 |w::r,h=>by
  have a:=jA (r:=r) fun x d=>h x (Zc _ d)
  obtain⟨b,c⟩:=h w (Ze ..);unfold UE at a;simp only[UE,Zr,Xt,zi b c,a]
theorem ve {r:List Int}(h:wV r):vf (UE r)=some r:=by
 have a:Nat.beq (UE r).length 8=true:=by rw[UL,h.1];rfl
 simp only[vf,a,cond_true,jA h.2]
theorem nk:∀{o:List (List Int)},V3 o->Xt vf (o.map UE)=some o
 |[],_=>rfl
 |r::o,h=>by
  simp only[Zr,Xt,ve (h r (Ze ..)),nk fun x a=>h x (Zc _ a)]
theorem yH {l:PL}{o:List (List Int)}(d:SG l o)(c:V3 o)(b:o.length<1000000):nT l=some o:=by
 rcases d with rfl|⟨h,rfl⟩
 ·have a:Nat.blt (o.map UE).length 1000000=true:=Og (by simpa using b);simp only[nT,a,cond_true,nk c]
 ·have :o=[]:=by simpa using h
  subst this;rfl
def keyOf (H:List Xz)(i:Nat):DL->Option (List (List Int))
 | .p (.fn g [])=>bif Nat.beq g 166 then some []else none
 | .fn g [.ptr j vj 0 0]=>bif Nat.beq g 170&& !Nat.beq j i then
   match H[j]? with
   |some bj=>bif !bj.mp&&Nat.beq vj bj.XX then(match bj.ch with |[[.p lo]]=>nT lo|_=>none)else none
   |none=>none
   else none
 |_=>none
def Re (args:List DV)(H:List Xz):Option (DV×List Xz):=
 match args with
 |[.one (.own i XX 0 n),.one (.p (.int .i64 (.ofNat 0))),.one (.p (.int .i64 (.ofNat n2))),.one (.p (.int .i64 (.ofNat lm))),.one fn]=>
  match keyOf H i fn with
  |some o=>bif Nat.blt lm 4611686018427387904 then
   match H[i]? with
   |some b=>match Xt (Xt AL) b.ch with
    |some es=>bif !b.mp&& !b.fz&&Nat.beq XX b.XX&&Nat.beq b.sz 12&&Nat.beq n es.length&&Nat.beq n2 es.length&&Nat.blt es.length 1000000&&es.all isTerm&&UQ es then some (.XZ [],H.set i {b with ch:=(U7 o es).map (·.map .p)})else none
    |none=>none
   |none=>none
   else none
  |none=>none
 |[.one (.p .XC),.one (.p (.int .i64 (.ofNat 0))),.one (.p (.int .i64 (.ofNat 0))),.one (.p (.int .i64 (.ofNat lm))),.one (.fn _ _)]=>bif Nat.blt lm 4611686018427387904 then some (.XZ [],H)else none
 |_=>none
theorem oK (c:List PL):∀a,fW [] c a=ins c a
 |[]=>rfl
 |d::a=>by unfold fW ins;rw[oK c a];rfl
theorem fT:∀a,U7 [] a=Tg a
 |[]=>rfl
 |c::a=>by unfold U7 Tg;rw[fT a,oK]
theorem yD {args:List DV}{H:List Xz}{r:DV×List Xz}(h:fx args H=some r):Re args H=some r:=by
 unfold fx at h;split at h
 ·rename_i i XX n d c g;obtain⟨a,b⟩:=X3 h;rw[Zs]at a;simp only[Re,keyOf,a.1,a.2,cond_true,fT];exact b
 ·cases h
structure dJ (B:Xs):Prop extends Std B where
 pdq:∀args H r,Re args H=some r->B.E0.heap 186 args H=some r
theorem rY {B:Xs}(a:Std B){f:PL}{o:List (List Int)}(k:SG f o)(h:V3 o)(c:o.length<1000000){x y z u x2 y2 z2 u2:PL}{m n:List Nat}(d:XE m)(e:XE n):
  Xx B 170 [.agg (x::y::z::u::mo m),.agg (x2::y2::z2::u2::mo n),.one (.ref [f])] (.one (.int .i64 (WC o n m))):=by
 have g:=OA a k h e d c;have i:=d.1;have j:=e.1;have l:(Xu m).take 8=Xu m:=Zd (by rw[Xc];omega);have p:(Xu n).take 8=Xu n:=Zd (by rw[Xc];omega);refine Xx.of (a.Wa _ _ rfl) ((g.Xj.and a.Xj).mono fun E K ⟨e1,b⟩=> ?_);simp only[Xm,Xq,Vg,reduceIte,Nat.reduceEqDiff,Nat.reduceLeDiff,Nat.reduceAdd,x170,b,X5,e1,Wk,Xc,i,j,l,p,Wb,Wf]
structure D4 (B:Xs):Prop extends Std B where
 pdq:∀args H r,fx args H=some r->B.E0.heap 186 args H=some r
theorem vB {H:List Xz}{i v:Nat}{a:List (List PL)}{c b:Nat}(h:H[i]? =some ⟨false,v,12,pc a,false,c⟩)(k:Tk a)(g:UQ a=true)(l:a.length<60000)(j:b<100):
  fx [.one (.own i v 0 a.length),.one (.p (.int .i64 (.ofNat 0))),.one (.p (.int .i64 (.ofNat a.length))),.one (.p (.int .i64 (.ofNat b))),.one (.p (.fn 166 []))] H=
   some (.XZ [],H.set i ⟨false,v,12,pc (Tg a),false,c⟩):=by
 have d:Nat.blt b 4611686018427387904=true:=Og (by omega);have e:Nat.blt a.length 1000000=true:=Og (by omega);have f:a.all isTerm=true:=ZW.2 k;simp only[fx,YW,d,h,qp,e,f,g,YU,YO,cond_true];rfl
abbrev oB (lo:PL):Xz:=⟨false,0,1,[[.p lo]],false,40⟩
theorem qV {H:List Xz}{i v j:Nat}{a:List (List PL)}{f d:Nat}{e:PL}{o:List (List Int)}(x:SG e o)(u:V3 o)(c:o.length<1000000)(r:H[i]? =some ⟨false,v,12,pc a,false,f⟩)(s:H[j]? =some (oB e))(b:j≠i)(w:Tk a)(q:UQ a=true)(y:a.length<1000000)(t:d<100):
  Re [.one (.own i v 0 a.length),.one (.p (.int .i64 (.ofNat 0))),.one (.p (.int .i64 (.ofNat a.length))),.one (.p (.int .i64 (.ofNat d))),.one (.fn 170 [.ptr j 0 0 0])] H=
   some (.XZ [],H.set i ⟨false,v,12,pc (U7 o a),false,f⟩):=by
 have g:Nat.blt d 4611686018427387904=true:=Og (by omega);have k:Nat.blt a.length 1000000=true:=Og (by omega);have l:a.all isTerm=true:=ZW.2 w;have m:Nat.beq j i=false:=by
  cases h:Nat.beq j i with
  |false=>rfl
  |true=>exact absurd (Zl h) b
 have n:=yH x u c;simp only[Re,keyOf,YW,g,m,n,r,s,qp,k,l,q,YU,YO,cond_true];rfl
theorem uP {B:Xs}(b:dJ B){H:List Xz}{i v j:Nat}{a:List (List PL)}{h:Nat}{g:PL}{o:List (List Int)}(u:SG g o)(s:V3 o)(f:o.length<1000000)(q:H[i]? =some ⟨false,v,12,pc a,false,h⟩)(r:H[j]? =some (oB g))(e:j≠i)(t:Tk a)(p:UQ a=true)(w:a.length<60000):
  S3 B 169 [.one (.own i v 0 a.length),.one (.fn 170 [.ptr j 0 0 0])] H (.XZ []) (H.set i ⟨false,v,12,pc (U7 o a),false,h⟩):=by
 obtain⟨x,c,l⟩:=Oi b.toStd (n:=a.length) (by omega);have m:=S3.base (B:=B) (b.pdq _ _ _ (qV u s f q r e t p (by omega) c));have k:a.length%18446744073709551616=a.length:=Zg (by omega);refine S3.of (b.Wa _ _ rfl) ((l.Xj.and (m.Xj.and b.toStd.Xj)).mono fun E K ⟨e1,e2,d⟩=> ?_);simp only[Xm,Vm,Xq,reduceIte,Nat.reduceEqDiff,Nat.reduceLeDiff,Nat.reduceAdd,x169,d,X5,e1,e2,k]
theorem sc {B:Xs}(f:Std B){es:List (List PL)}(b:∀c∈es,c.length=12)(q:es.length<1000000)(e:Xz):
  S3 B 168 [.one (.p (.Xp es))] [e] (.one (.own 1 1 0 es.length)) [e,⟨false,1,12,pc es,false,75⟩]:=by
 have a:=fun(h:HF)=>(Sl.Xp (es:=es)).chunks (h:=h)
 have i:es.length*128<=lim:=by unfold lim;omega
 have j:es.length<=9223372036854775807:=by omega
 have o:VZ false [.one (.p (.Xp es)),.one (.p .XC)]=some ⟨.one (.p (.bool false)),[],[],[]⟩:=rfl;have k:(es.map (·.map DL.p)).all (fun c=>decide (c.length=12))=true:=by
  rw[ZW];intro c g;simp only[ZQ]at g;obtain⟨d,m,rfl⟩:=g;simp[b d m]
 have l:(es.map (·.map DL.p)).length=es.length:=by simp
 refine S3.of (f.Wa _ _ rfl) (f.Xj.mono fun E K n=> ?_);simp only[Xm,Vm,Xq,reduceIte,Nat.reduceEqDiff,Nat.reduceLeDiff,Nat.reduceAdd,x168,a,i,j,o,k,l,pc]
theorem uQ {B:Xs}(a:dJ B){H:List Xz}{g:Nat}{caps:List DL}:S3 B 169 [.one (.p .XC),.one (.fn g caps)] H (.XZ []) H:=by
 obtain⟨c,f,d⟩:=Oi a.toStd (n:=0) (by omega);have h0:Nat.blt c 4611686018427387904=true:=Og (by omega);have e:=S3.base (B:=B) (a.pdq [.one (.p .XC),.one (.p (.int .i64 (.ofNat 0))),.one (.p (.int .i64 (.ofNat 0))),.one (.p (.int .i64 (.ofNat c))),.one (.fn g caps)] H (.XZ [],H) (by simp only[Re,h0,cond_true]));refine S3.of (a.Wa _ _ rfl) ((d.Xj.and (e.Xj.and a.toStd.Xj)).mono fun E K ⟨e1,e2,b⟩=> ?_);simp only[Xm,Vm,Xq,reduceIte,Nat.reduceEqDiff,Nat.reduceLeDiff,Nat.reduceAdd,x169,b,X5,e1,e2]
theorem se {B:Xs}(a:Std B)(H:List Xz):S3 B 168 [.one (.p .XC)] H (.one (.p .XC)) H:=by
 have c:VZ false [.one (.p .XC),.one (.p .XC)]=some ⟨.one (.p (.bool true)),[],[],[]⟩:=rfl;refine S3.of (a.Wa _ _ rfl) (a.Xj.mono fun E K b=> ?_);simp only[Xm,Vm,Xq,reduceIte,Nat.reduceEqDiff,Nat.reduceLeDiff,x168,c]
def T5 (ts:List Qm):Prop:=(ts.map (·.2)).Nodup
theorem dr:∀{e:List (List PL)} {a:List Qm},X4 e a->T5 a->UQ e=true
 |_,_,.nil,_=>rfl
 |_,_,.cons (x:=c) (y:=t) hc h,hd=>by
  obtain⟨l,m⟩:=List.nodup_cons.1 hd;simp only[UQ,Zs];refine⟨ZW.2 fun d f=> ?_,dr h m⟩;obtain⟨i,g⟩:=ZC.1 f;have j:=h.length;obtain⟨o,-⟩:=Zb.1 g;rename_i e a;have b:i<a.length:=by omega
  obtain⟨x,k,p⟩:=h.get i _ (Zf b);rw[g]at k;cases k;rw[hc.mM,p.mM];cases n:gz Nat.beq t.2 (a[i]).2 with
  |false=>rfl
  |true=>
   exfalso;apply l;show t.2∈a.map (·.2);rw[ef (fun _ _=>Zl) _ _ n];exact ZQ.2 ⟨_,Yz b,rfl⟩
theorem TW {B:Xs}(b:dJ B){w f:PL}{m:List Qm}{o:List (List Int)}(F:SG f o)(C:V3 o)(t:o.length<1000000)(d:PQ w m)(z:T5 m)(I:m.length<60000):
  ∃r,Xx B 140 [.one w,.one f] (.one r)/\PQ r (Vu o m):=by
 obtain⟨a,D,d⟩:=d;have G:=d.length;have k:UN 170 [.one (.ptr 0 0 0 0)]=some ⟨.one (.fn 170 [.ptr 0 0 0 0]),[],[],[]⟩:=rfl;rcases D with rfl|⟨rfl,rfl⟩
 ·have s:=dr d z;have x:=d.EG;have p:∀c∈a,c.length=12:=fun c y=>R4.len (X4.ax d c y)
  have n:=sc b.toStd p (by omega) (oB f);have q:=uP b F C t (H:=[oB f,⟨false,1,12,pc a,false,75⟩]) (i:=1) (j:=0) (v:=1) rfl rfl (by decide) x s (by omega);have l:(U7 o a).length=a.length:=(SS a).length_eq;refine⟨.Xp (U7 o a),Xx.of (b.Wa _ _ rfl) ((n.Xj.and (q.Xj.and b.toStd.Xj)).mono fun E K ⟨e1,e2,e⟩=> ?_),⟨_,.Xp,d.sort⟩⟩;have u:=VA (U7 o a) (Y0 l);have A:=fun h=>VK 5 h (U7 o a)
  simp only[Xm,Vm,Xq,reduceIte,Nat.reduceEqDiff,Nat.reduceLeDiff,Nat.reduceAdd,x140,k,e,X5,e1,e2,u,A,Wl,l,Zh]
 ·cases d;have n:=se b.toStd [oB f];have q:=uQ b (H:=[oB f]) (g:=170) (caps:=[.ptr 0 0 0 0]);refine⟨.XC,Xx.of (b.Wa _ _ rfl) ((n.Xj.and (q.Xj.and b.toStd.Xj)).mono fun E K ⟨e1,e2,e⟩=> ?_),⟨[],.nil,.nil⟩⟩;simp only[Xm,Vm,Xq,reduceIte,Nat.reduceEqDiff,Nat.reduceLeDiff,Nat.reduceAdd,x140,k,e,X5,e1,e2]
open Go.Ev
def iM:List PL:=[(.bool false),.XC,(.bool false),.XC,(.int .i64 (.ofNat 0)),(.int .i64 (.ofNat 0)),(.int .i64 (.ofNat 0)),(.int .i64 (.ofNat 0)),(.int .i64 (.ofNat 0)),(.int .i64 (.ofNat 0)),(.int .i64 (.ofNat 0)),(.int .i64 (.ofNat 0))]
def vk:RM where
 m:=0
 m2:=9
 it:=10
 nx:=11
 ok:=12
 en:=13
 b:=0
 b2:=1
 Vx:=8
 ntmps:=28
 results:=[(2,none)]
 yy:=.region false [⟨(some 2),.move,[(.c (.one .XC))],none,[]⟩]
 yx:=.region false [⟨(some 6),.move,[(.t 0)],none,[]⟩,⟨(some 7),.PY,[(.t 6)],none,[]⟩,⟨(some 8),(.makeSlice 75 iM 128),[(.c (.one (.int .i64 (.ofNat 0)))),(.t 7)],none,[]⟩,⟨(some 3),.move,[(.t 8)],none,[]⟩]
 post:=.seq (.region false [⟨(some 25),.move,[(.t 3)],none,[]⟩,⟨(some 26),(.call 165),[(.t 25),(.c (.one (.fn 166 [])))],none,[]⟩]) (.seq (.region false [⟨(some 27),.move,[(.t 3)],none,[]⟩,⟨(some 2),.move,[(.t 27)],none,[]⟩]) .ret)
 tail:=[⟨(some 14),(.extract 0),[(.t 13)],none,[0]⟩,⟨(some 15),(.extract 1),[(.t 13)],none,[0]⟩,⟨(some 4),(.alloc 73 [(.int .i64 (.ofNat 0)),(.int .i64 (.ofNat 0)),(.int .i64 (.ofNat 0)),(.int .i64 (.ofNat 0)),(.int .i64 (.ofNat 0)),(.int .i64 (.ofNat 0)),(.int .i64 (.ofNat 0)),(.int .i64 (.ofNat 0))]),[],none,[]⟩,⟨(some 5),(.alloc 48 [(.bool false),.XC,(.bool false),.XC]),[],none,[]⟩,⟨none,(.store 8),[(.t 4),(.t 14)],none,[3,1,0,1,3,4]⟩,⟨none,(.store 4),[(.t 5),(.t 15)],none,[4,2,5,0,1,2,3,4,5]⟩]
 rb:=.seq (.region false [⟨(some 16),(.load true 4),[(.t 5)],none,[]⟩,⟨(some 17),(.call 158),[(.t 16)],none,[]⟩,⟨(some 18),(.bin .neq),[(.t 17),(.c (.one (.int .i64 (.ofNat 0))))],none,[]⟩]) (.cond (.t 18) (.region false [⟨(some 19),.move,[(.t 3)],none,[]⟩,⟨(some 20),(.load true 4),[(.t 5)],none,[]⟩,⟨(some 21),(.load true 8),[(.t 4)],none,[]⟩,⟨(some 22),(.build iM [(0,4),(4,8)]),[(.t 20),(.t 21)],none,[]⟩,⟨(some 23),(.buildSlice 75 iM 1 [0]),[(.t 22)],none,[]⟩,⟨(some 24),(.append 75 12 128),[(.t 19),(.t 23)],none,[]⟩,⟨(some 3),.move,[(.t 24)],none,[]⟩]) .skip)
theorem C6:Ap Tryz.prog 132 vk:=by
 refine⟨⟨Tryz.f132,_,_,_,_,_,_,_,_,_,_,_,_,_,Tryz.func132,rfl,by kernel_rfl,by kernel_rfl,by kernel_rfl,by kernel_rfl,by kernel_rfl,by kernel_rfl,?_⟩⟩;refine⟨⟨rfl,rfl,rfl⟩,⟨_,rfl,rfl,rfl,73,48,by kernel_rfl⟩,⟨rfl,rfl,rfl⟩,⟨rfl,rfl,rfl⟩,⟨rfl,rfl,rfl⟩,by kernel_rfl,by kernel_rfl,?_,?_⟩
 ·exact⟨by decide,by decide,by decide,by decide,by decide⟩
 ·exact⟨by decide,by decide,by decide⟩
end Go.Proofs.YtidginchkjhobaaGreat
namespace Go.Ev
open Go.RowKit
theorem og {c d:Type}{f:c->Option d}{p:d->Prop}:∀{l:List c},(∀x∈l,∃y,f x=some y/\p y)->∃b,Xt f l=some b/\∀y∈b,p y
 |[],_=>⟨[],rfl,fun _ h=>by cases h⟩
 |x::l,h=>by
  obtain⟨y,e,g⟩:=h x (by simp);obtain⟨b,i,j⟩:=og fun z a=>h z (Zc _ a)
  refine⟨y::b,by simp only[Xt,e,i],fun z a=> ?_⟩;rcases Zj.1 a with rfl|a
  ·exact g
  ·exact j z a
theorem Na {a:Type}:∀(l:List a) (p:a×List a),p∈Qk l->(p.1::p.2).Perm l
 |[],p,h=>by simp[Qk]at h
 |x::l,p,h=>by
  simp only[Qk,Zj,ZQ]at h;rcases h with rfl|⟨q,hq,rfl⟩
  ·exact .refl _
  ·exact(List.Perm.swap ..).trans ((Na l q hq).cons x)
theorem gr {E:Xa}{K:Nat}{e:RM}{a:Nat}(Inv:List (List DL)->St->Prop)(b:∀l s,Inv l s->∀p∈Qk l,∃d,TQ E K e a s p.1=some d/\Inv p.2 d):
  ∀(n:Nat) (l:List (List DL)) (s:St),l.length=n->Inv l s->∃i,Q9 E K e a n l s=some i/\∀s∈i,Inv [] s
 |n,[],s,_,hi=>⟨[s],by cases n<;>rfl,fun t g=>by simp at g;subst g;exact hi⟩
 |0,_::_,_,h,_=>by simp at h
 |n+1,c::cs,s,h,hi=>by
  have w:=gr Inv b n;obtain⟨k,u,v⟩:=og (f:=fun p=>match TQ E K e a s p.1 with
   |some d=>Q9 E K e a n p.2 d
   |none=>none) (p:=fun i=>∀s∈i,Inv [] s) (l:=Qk (c::cs)) fun p o=>by
    obtain⟨d,e1,e2⟩:=b _ s hi p o;have j:p.2.length=n:=by
     have:=(Na _ p o).length_eq;simp at this h;omega
    obtain⟨i,q,r⟩:=w p.2 d j e2;exact⟨i,by simp only[e1,q],r⟩
  have m:Q9 E K e a (n+1) (c::cs) s=(match Xt (fun p=>match TQ E K e a s p.1 with
   |some d=>Q9 E K e a n p.2 d
   |none=>none) (Qk (c::cs))with |some k=>some k.flatten|none=>none):=rfl
  rw[u]at m;refine⟨k.flatten,m,fun t g=> ?_⟩;obtain⟨l,j,g⟩:=List.mem_flatten.1 g;exact v l j t g
theorem Q3 (H:List Xz)(O:BS)(g:Nat->Nat):Live O g (Xn (H.map Vq))=O:=by
 funext q;refine propext ⟨?_,.inl⟩;rintro (f|⟨i,d,a,e,_⟩)
 ·exact f
 ·simp only[Xn,ZA]at a;cases b:H[i]? with
  |none=>simp[b]at a
  |some c=>simp only[b,Z4,Za]at a;subst a;simp[Vq]at e
theorem Cn {P:Program}{f:Nat}{H:List Xz}{id:Nat}{b:Xz}{r:PV}(h:CH P f [.one (.mp 0)] [Vq b] (inj r) [Vq b])(X:H[id]? =some b)(hm:b.mp=true)(hp:∀c∈b.ch,∀d∈c,∃l,d=.p l):
  CH P f [.one (.mp id)] H (inj r) (H.map Vq):=by
 intro w O g vs J o;obtain⟨W,I⟩:=bU (w':=w) J (List.range H.length) (Zh _) (fun _ _=>rfl) rfl rfl rfl;rw[<-qc]at W I;have M:Xn H id=some b:=X;have L:Xn (H.map Vq) id=some (Vq b):=by simp only[Xn,ZA];rw[X];rfl
 have z:Live O (fun _=>g id) (Xn [Vq b])=O:=Q3 [b] O _;have A:=Q3 H O g;have D:∀v l,XL w O g (Xn (H.map Vq)) v (.p l)->XL w O (fun _=>g id) (Xn [Vq b]) v (.p l):=by
  intro v l S;cases S with |p _ _ B=>exact .p _ _ (by rw[z];rw[A]at B;exact B)
 have K:X0 w O (fun _=>g id) (Xn [Vq b]):=by
  have h0:∀i x,Xn [Vq b] i=some x->i=0/\x=Vq b:=by
   intro i x n;cases i with
   |zero=>simp[Xn]at n;exact⟨rfl,n.symm⟩
   |succ i=>simp[Xn]at n
  refine⟨fun i x n=> ?_,fun i j x y n hy _=>by rw[(h0 i x n).1,(h0 j y hy).1],fun i x n=>J.Nt id b M,J.lt⟩;obtain⟨rfl,rfl⟩:=h0 i x n;have m:=I.QG id _ L;unfold WJ at m⊢;have R:(Vq b).mp=true:=hm;rw[R,if_pos rfl]at m⊢;by_cases ht:Nat.beq (Vq b).ty 2=true
  ·rw[if_pos ht]at m⊢;exact m
  ·rw[if_neg ht]at m⊢;obtain⟨es,G,e1,e2,V⟩:=m;refine⟨es,G,e1,e2,XF.VS V.length fun i e c N Y=> ?_⟩;obtain⟨e',u,kv,xv,q1,q2,q3,q4⟩:=V.get i c Y;rw[N]at u;cases u;refine⟨kv,xv,q1,q2,q3,XF.VS q4.length fun j v d T Z=> ?_⟩;obtain⟨l,rfl⟩:=hp c (Zn Y) d (Zn Z);obtain⟨v',C,S⟩:=q4.get j _ Z;rw[T]at C;cases C;exact D _ _ S
 have a:XF (XB w O (fun _=>g id) (Xn [Vq b])) vs [.one (.mp 0)]:=by
  cases o with |cons E t=> ?_
  cases t;refine .cons ?_ .nil;have E:XL w O g (Xn H) _ (.mp id):=E;generalize a2:(‹Value›:Value)=v1 at E;cases E with |mp _ _ _ _=>exact XL.mp 0 (Vq b) rfl hm
 refine(h w O (fun _=>g id) vs K a).mono fun e F ⟨v,U,N,T,a0,q⟩=> ?_
 have Q:Live O U (Xn [Vq b])=O:=Q3 [b] O _;have s:∀k,k<w.heap.size->F.heap[k]? =w.heap[k]? :=by
  intro k m;by_cases ho:O k
  ·exact q.jn k ho
  ·exact q.keeps.VW k m (by rw[z];exact ho)
 obtain⟨gm,gi⟩:=Tu (w':=F) I q.keeps.size s q.os q.tape q.output;refine⟨v,g,N,lJ (fun v l B=> ?_) T,gi,W.trans gm⟩;rw[Q]at B;rw[A];exact B
end Go.Ev
namespace Go.Proofs.YtidginchkjhobaaGreat
open Go.Ev Go.Num
def cj (c:List DL):Option (List PL):=
 match Xt AL c with
 |some l=>match l.drop 8 with
  |[.bool n,y,z,u]=>match y with
   | .XC=>bif isTerm (.bool n::y::z::u::l.take 8)then some (.bool n::y::z::u::l.take 8)else none
   | .Xp _=>bif isTerm (.bool n::y::z::u::l.take 8)then some (.bool n::y::z::u::l.take 8)else none
   |_=>none
  |_=>none
 |none=>none
def nz (t:List PL):Bool:=match t with
 |_::.Xp (_::_)::_=>true
 |_=>false
def Rm (args:List DV)(H:List Xz):Option (DV×List Xz):=
 match args with
 |[.one (.mp i)]=>match H[i]? with
  |some b=>bif b.mp&&Nat.beq b.ty 1&&Nat.beq b.sz 8&&Nat.blt b.ch.length 60000 then
    match Xt cj b.ch with
    |some ts=>bif UQ ts then some (inj (.one (.Xp (Tg (ts.filter nz)))),H.map Vq)else none
    |none=>none
   else none
  |none=>none
 |_=>none
theorem OL {c:List DL}{t:List PL}(h:cj c=some t):∃n y z u m a,c=Xu m++[.p (.bool n),.p y,.p z,.p u]/\t=.bool n::y::z::u::mo m/\XE m/\Sl y a/\nz t= !a.isEmpty:=by
 unfold cj at h;split at h
 ·rename_i l i;have f:=kx i;split at h
  ·rename_i n y z u g;have key:∀a,Sl y a->(bif isTerm (.bool n::y::z::u::l.take 8)then some (.bool n::y::z::u::l.take 8)else none)=some t->nz (.bool n::y::z::u::l.take 8)= !a.isEmpty->∃n y z u m a,c=Xu m++[.p (.bool n),.p y,.p z,.p u]/\t=.bool n::y::z::u::mo m/\XE m/\Sl y a/\nz t= !a.isEmpty:=by
    intro a j h k;obtain⟨d,rfl⟩:=Xv h;obtain⟨q,r,s,o,e,b⟩:=Wm d;generalize VT (.bool n::y::z::u::l.take 8)=m at e b;simp only[ZJ]at e;obtain⟨-,-,-,-,e⟩:=e;refine⟨n,y,z,u,m,a,?_,by rw[e],b,j,k⟩;rw[f,<-List.take_append_drop 8 l,g,List.map_append,e,Wk];rfl
   split at h
   ·exact key [] .nil h rfl
   ·rename_i a;exact key a .Xp h (by cases a<;>rfl)
   ·cases h
  ·cases h
 ·cases h
theorem xL {B:Xs}(b:Std B){n:Bool}{y z u:PL}{d:List (List PL)}(e:Sl y d):
  ∃s,Xx B 158 [.agg [.bool n,y,z,u]] (.one (.int .i64 s))/\Pc s (.ofNat 0)=d.isEmpty:=by
 have key:∃s,Xx B 146 [.agg [.bool n,y]] (.one (.int .i64 s))/\Pc s (.ofNat 0)=d.isEmpty:=by
  cases d with
  |nil=>
   refine⟨.ofNat 0,Xx.of (b.Wa _ _ rfl) (b.Xj.mono fun E K a=> ?_),rfl⟩;simp only[Xm,Xq,reduceIte,Nat.reduceEqDiff,Nat.reduceLeDiff,Nat.reduceAdd,x146,e.len]
  |cons c d=>
   have h0:¬d.length+1=0:=by omega
   cases n with
   |true=>
    refine⟨.negSucc 0,Xx.of (b.Wa _ _ rfl) (b.Xj.mono fun E K a=> ?_),rfl⟩;simp only[Xm,Xq,reduceIte,Nat.reduceEqDiff,Nat.reduceLeDiff,Nat.reduceAdd,x146,e.len,h0]
   |false=>
    refine⟨.ofNat 1,Xx.of (b.Wa _ _ rfl) (b.Xj.mono fun E K a=> ?_),rfl⟩;simp only[Xm,Xq,reduceIte,Nat.reduceEqDiff,Nat.reduceLeDiff,Nat.reduceAdd,x146,e.len,h0]
 obtain⟨s,f,g⟩:=key;refine⟨s,Xx.of (b.Wa _ _ rfl) ((f.Xj.and b.Xj).mono fun E K ⟨e1,a⟩=> ?_),g⟩;simp only[Xm,Xq,reduceIte,Nat.reduceEqDiff,Nat.reduceLeDiff,Nat.reduceAdd,x158,a,X5,e1]
theorem AD {a b:Type}{p q:a->b->Prop}{x:a}{y:b}(h:p x y)(k:q x y):∃x y,p x y/\q x y:=⟨x,y,h,k⟩
abbrev El:Xz:=⟨true,0,0,[],true,2⟩
theorem xY {E:Xa}{K:Nat}(f:E.mode=md){n:Bool}{y z u:PL}{m:List Nat}(q:m.length=8){s:Int}(r:E.pure 158 [.agg [.bool n,y,z,u]]=some (.one (.int .i64 s)))(h0:Pc s (.ofNat 0)=false)
  {B0:Xz} {T:List (Nat×DV)} {v:Nat} {o:List (List PL)} {G:List Xz} (A:o.length<100000) (g:Xh T 3=some (.one (.own 1 v 0 o.length))) (d:Xh T 10=some (.one (.ptr 2 0 0 0))):
  ∃e h,TQ E K vk 2 ⟨T,B0::⟨false,v,12,pc o,false,75⟩::El::G⟩ (Xu m++[.p (.bool n),.p y,.p z,.p u])=some ⟨e,B0::⟨false,v+1,12,pc (o++[.bool n::y::z::u::mo m]),false,75⟩::El::h⟩/\
   Xh e 3=some (.one (.own 1 (v+1) 0 (o.length+1)))/\Xh e 10=some (.one (.ptr 2 0 0 0)):=by
 have t:(Xu m++[DL.p (.bool n),.p y,.p z,.p u]).take 8=Xu m:=by rw[Y6 (by rw[Xc];omega),Zd (by rw[Xc];omega)]
 have i:(Xu m++[DL.p (.bool n),.p y,.p z,.p u]).drop 8=[.p (.bool n),.p y,.p z,.p u]:=by
  rw[YT (by rw[Xc];omega),Zm (by rw[Xc];omega)];rfl
 have w:(Xu m).take 8=Xu m:=Zd (by rw[Xc];omega);have x:(Xu m).drop 8=[]:=Zm (by rw[Xc];omega);have j:(o.length+1)*128<=lim:=by unfold lim;omega
 have k:o.length+1<=9223372036854775807:=by omega
 have l:∀(a b c:Xz),(G++[a,b]++[c])[G.length+2]? =some c:=by intro a b c;simp
 apply AD
 ·unfold TQ;simp only[Xm,Xq,Vg,vk,iM,t,i,reduceIte,Nat.reduceEqDiff,Nat.reduceLeDiff,Nat.reduceLT,Nat.reduceAdd,g,d,q,Xc,w,f,X5,r,h0,j,k,Wl,Vp,l,rC];rfl
 ·simp only[Xm,reduceIte,Nat.reduceEqDiff,g,d,and_self]
theorem A4 {E:Xa}{K:Nat}(c:E.mode=md){n:Bool}{y z u:PL}{m:List Nat}(g:m.length=8){s:Int}(h:E.pure 158 [.agg [.bool n,y,z,u]]=some (.one (.int .i64 s)))(h0:Pc s (.ofNat 0)=true)
  {B0:Xz} {T:List (Nat×DV)} {v:Nat} {o:List (List PL)} {G:List Xz} (f:Xh T 3=some (.one (.own 1 v 0 o.length))) (a:Xh T 10=some (.one (.ptr 2 0 0 0))):
  ∃b d,TQ E K vk 2 ⟨T,B0::⟨false,v,12,pc o,false,75⟩::El::G⟩ (Xu m++[.p (.bool n),.p y,.p z,.p u])=some ⟨b,B0::⟨false,v,12,pc o,false,75⟩::El::d⟩/\
   Xh b 3=some (.one (.own 1 v 0 o.length))/\Xh b 10=some (.one (.ptr 2 0 0 0)):=by
 have i:(Xu m++[DL.p (.bool n),.p y,.p z,.p u]).take 8=Xu m:=by rw[Y6 (by rw[Xc];omega),Zd (by rw[Xc];omega)]
 have e:(Xu m++[DL.p (.bool n),.p y,.p z,.p u]).drop 8=[.p (.bool n),.p y,.p z,.p u]:=by
  rw[YT (by rw[Xc];omega),Zm (by rw[Xc];omega)];rfl
 have k:(Xu m).take 8=Xu m:=Zd (by rw[Xc];omega);have j:(Xu m).drop 8=[]:=Zm (by rw[Xc];omega);apply AD
 ·unfold TQ;simp only[Xm,Xq,Vg,vk,iM,i,e,reduceIte,Nat.reduceEqDiff,Nat.reduceLeDiff,Nat.reduceAdd,a,g,Xc,c,X5,h,h0,rC];rfl
 ·simp only[Xm,reduceIte,Nat.reduceEqDiff,f,a,and_self]
theorem uR {B:Xs}(b:D4 B){L:Nat}(h:L<60000):X1 B fun E _=>∀(H:List Xz) (i v e:Nat) (a:List (List PL)),a.length=L->H[i]? =some ⟨false,v,12,pc a,false,e⟩->Tk a->UQ a=true->
  E.heap 165 [.one (.own i v 0 a.length),.one (.p (.fn 166 []))] H=some (.XZ [],H.set i ⟨false,v,12,pc (Tg a),false,e⟩):=by
 obtain⟨w,c,g⟩:=Oi b.toStd (n:=L) (by omega);obtain⟨N,k⟩:=g.Xj;obtain⟨M,j⟩:=b.toStd.Xj;refine⟨max N M+1,fun K n t u=> ?_⟩;obtain⟨n,rfl⟩:∃r,n=r+1:=⟨n-1,by omega⟩;have e1:=k K n (by omega) (by omega);have d:=j K n (by omega) (by omega);intro H i v e a m o q l;subst m;have e2:(B.E K n).heap _ _ _=_:=(B.Cm (K:=0) (n:=0) (Zt K) (Zt n)).heap _ _ _ _ (b.pdq _ _ _ (vB o q l h c));have f:a.length%18446744073709551616=a.length:=Zg (by omega);show(match B.X 165 with
  |some s=>Uh (B.E K n) K s [.one (.own i v 0 a.length),.one (.p (.fn 166 []))] H
  |none=>(B.E K n).heap 165 [.one (.own i v 0 a.length),.one (.p (.fn 166 []))] H)=_
 rw[b.toStd.Wa 165 x165 rfl];simp only[Xm,Vm,Xq,reduceIte,Nat.reduceEqDiff,Nat.reduceLeDiff,Nat.reduceAdd,x165,d,X5,e1,e2,f]
def Ci (E:Xa)(ts:List (List PL)):Prop:=∀t∈ts,∀n y z u m,t=.bool n::y::z::u::m->∃s,E.pure 158 [.agg [.bool n,y,z,u]]=some (.one (.int .i64 s))/\Pc s (.ofNat 0)= !nz t
theorem iZ {B:Xs}(g:Std B):∀{ch:List (List DL)} {b:List (List PL)},Xt cj ch=some b->X1 B fun E _=>Ci E b
 |[],b,h=>by cases h;exact X1.of fun _ _ t d=>by cases d
 |c::ch,b,h=>by
  simp only[Xt]at h;split at h
  ·cases h
  ·rename_i t d;split at h
   ·cases h
   ·rename_i v f;cases h;obtain⟨n,y,z,u,m,i,-,rfl,-,l,o⟩:=OL d;obtain⟨s,j,k⟩:=xL g (n:=n) (z:=z) (u:=u) l;refine((iZ g f).and j.Xj).mono fun E K ⟨e1,e2⟩ r a q x A w p e=> ?_
    rcases Zj.1 a with rfl|a
    ·simp only[ZJ,PL.bool.injEq]at e;obtain⟨rfl,rfl,rfl,rfl,-⟩:=e;exact⟨s,e2,by rw[k,o];cases i<;>rfl⟩
    ·exact e1 r a q x A w p e
end Go.Proofs.YtidginchkjhobaaGreat
