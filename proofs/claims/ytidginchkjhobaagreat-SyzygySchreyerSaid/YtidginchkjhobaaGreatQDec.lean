/- What the library's sort answers at terms and any order; the same for terms with rational coefficients. -/
import Derived.Test.YtidginchkjhobaaGreatQPol
set_option maxHeartbeats 16000000
set_option maxRecDepth 100000
namespace Go.Num
def sc (o:M')(t:Qm):Z'->Z'
 |[]=>[t]
 |u::us=>bif Go.Ev.SR (WX o t.2 u.2) (.ofNat 0)then u::sc o t us else t::u::us
def Vz (o:M'):Z'->Z'
 |[]=>[]
 |t::ts=>sc o t (Vz o ts)
theorem dK (o:M')(t:Qm):∀a,(sc o t a).Perm (t::a)
 |[]=>.refl _
 |u::us=>by
  unfold sc;cases Go.Ev.SR (WX o t.2 u.2) (.ofNat 0)with
  |true=>exact((dK o t us).cons u).trans (List.Perm.swap ..)
  |false=>exact .refl _
theorem WL (o:M'):∀a,(Vz o a).Perm a
 |[]=>.refl _
 |t::a=>(dK o t _).trans ((WL o a).cons t)
end Go.Num
namespace Go.Proofs.YtidginchkjhobaaGreat
open Go.Ev Go.Num
theorem zC (o:M')(m n:P'):isNeg (WX o m n)=SR (WX o m n) (.ofNat 0):=by
 rcases Ul o m n with h|h|h<;>rw[h]<;>rfl
theorem W0.mono {c:N'}{t:Qm}(h:W0 c t):uV c=some t.2:=by
 obtain⟨n,a,d,b,rfl,-,e⟩:=h;exact NB e
theorem W0.mM {c:N'}{t:Qm}(h:W0 c t):Uk c=t.2:=by unfold Uk;rw[h.mono];rfl
theorem W0.Lt {c:N'}{t:Qm}(h:W0 c t):isTerm c=true:=by unfold isTerm;rw[h.mono];rfl
theorem X5.Jc {b:I'}{e:Z'}(h:X5 b e):TK b:=by
 induction h with
 |nil=>intro c a;cases a
 |cons h _ d=>
  intro c a;rcases Zj.1 a with rfl|a
  ·exact h.Lt
  ·exact d c a
theorem X5.ins {o:M'}{c:N'}{t:Qm}(b:W0 c t){a:I'}{g:Z'}(h:X5 a g):X5 (jm o c a) (sc o t g):=by
 induction h with
 |nil=>exact .cons b .nil
 |@cons d u a g f h i=>
  unfold jm sc;have e:isNeg (U1 o d c)=SR (WX o t.2 u.2) (.ofNat 0):=by unfold U1;rw[b.mM,f.mM];exact zC ..
  rw[e];cases SR (WX o t.2 u.2) (.ofNat 0)with
  |true=>exact .cons f i
  |false=>exact .cons b (.cons f h)
theorem X5.sort {o:M'}{a:I'}{b:Z'}(h:X5 a b):X5 (TA o a) (Vz o b):=by
 induction h with
 |nil=>exact .nil
 |cons c h d=>exact X5.ins c d
def vg:PL->Option Int
 | .int .i64 z=>bif SR (.negSucc 1000) z&&SR z (.ofNat 1001)then some z else none
 |_=>none
def yF (c:N'):Option U':=bif Nat.beq c.length 8 then Xv vg c else none
def ry:PL->Option M'
 | .Xq=>some []
 | .Xn rows=>bif Nat.blt rows.length 1000000 then Xv yF rows else none
 |_=>none
theorem zF {l:PL}{z:Int}(h:vg l=some z):l=.int .i64 z/\-1000<=z/\z<=1000:=by
 unfold vg at h;split at h
 ·obtain⟨a,rfl⟩:=XX h;rw[Zs,TO,TO,decide_eq_true_eq,decide_eq_true_eq]at a;refine⟨rfl,?_,?_⟩
  ·have:=a.1;omega
  ·have:=a.2;simp only[Zz]at this;omega
 ·cases h
theorem sb:∀{c:N'} {r:U'},Xv vg c=some r->c=Vd r/\∀w∈r,-1000<=w/\w<=1000
 |[],r,h=>by cases h;exact⟨rfl,fun _ h=>by cases h⟩
 |x::c,r,h=>by
  simp only[Xv]at h;split at h
  ·cases h
  ·rename_i z g;split at h
   ·cases h
   ·rename_i i b;cases h;obtain⟨rfl,d⟩:=zF g;obtain⟨rfl,f⟩:=sb b;refine⟨rfl,fun e a=> ?_⟩;rcases Zj.1 a with rfl|a
    ·exact d
    ·exact f e a
theorem yD {c:N'}{r:U'}(h:yF c=some r):c=Vd r/\vO r:=by
 obtain⟨a,b⟩:=Wg h;obtain⟨rfl,d⟩:=sb b;exact⟨rfl,by simpa[bn]using Zl a,d⟩
theorem lL:∀{a:I'} {o:M'},Xv yF a=some o->a=o.map Vd/\Vt o
 |[],r,h=>by cases h;exact⟨rfl,fun _ h=>by cases h⟩
 |x::c,r,h=>by
  simp only[Xv]at h;split at h
  ·cases h
  ·rename_i z i;split at h
   ·cases h
   ·rename_i j d;cases h;obtain⟨rfl,f⟩:=yD i;obtain⟨rfl,g⟩:=lL d;refine⟨rfl,fun e b=> ?_⟩;rcases Zj.1 b with rfl|b
    ·exact f
    ·exact g e b
theorem uM {l:PL}{o:M'}(h:ry l=some o):TR l o/\Vt o/\o.length<1000000:=by
 unfold ry at h;split at h
 ·cases h;exact⟨.inr ⟨rfl,rfl⟩,(fun _ h=>by cases h),by simp⟩
 ·obtain⟨a,b⟩:=Wg h;obtain⟨rfl,c⟩:=lL b;refine⟨.Xn,c,?_⟩;simpa using a
 ·cases h
theorem Ct {z:Int}(a: -1000<=z)(b:z<=1000):vg (.int .i64 z)=some z:=by
 have e1:SR (.negSucc 1000) z=true:=by rw[TO,decide_eq_true_eq];omega
 have e2:SR z (.ofNat 1001)=true:=by rw[TO,decide_eq_true_eq];simp only[Zz];omega
 simp only[vg,e1,e2,Bool.and_self,cond_true]
theorem mE:∀{r:U'},(∀w∈r,-1000<=w/\w<=1000)->Xv vg (Vd r)=some r
 |[],_=>rfl
 |w::r,h=>by
  have a:=mE (r:=r) fun x d=>h x (Zb _ d)
  obtain⟨b,c⟩:=h w (Zc ..);unfold Vd at a;simp only[Vd,Zt,Xv,Ct b c,a]
theorem yE {r:U'}(h:vO r):yF (Vd r)=some r:=by
 have a:Nat.beq (Vd r).length 8=true:=by rw[bn,h.1];rfl
 simp only[yF,a,cond_true,mE h.2]
theorem qL:∀{o:M'},Vt o->Xv yF (o.map Vd)=some o
 |[],_=>rfl
 |r::o,h=>by
  simp only[Zt,Xv,yE (h r (Zc ..)),qL fun x a=>h x (Zb _ a)]
theorem B8 {l:PL}{o:M'}(d:TR l o)(c:Vt o)(b:o.length<1000000):ry l=some o:=by
 rcases d with rfl|⟨h,rfl⟩
 ·have a:Nat.blt (o.map Vd).length 1000000=true:=N6 (by simpa using b);simp only[ry,a,cond_true,qL c]
 ·have :o=[]:=by simpa using h
  subst this;rfl
def keyOf (H:V')(i:Nat):DL->Option M'
 | .p (.fn g [])=>bif Nat.beq g 166 then some []else none
 | .fn g [.ptr j vj 0 0]=>bif Nat.beq g 170&& !Nat.beq j i then
   match H[j]? with
   |some bj=>bif !bj.mp&&Nat.beq vj bj.XM then(match bj.ch with |[[.p lo]]=>ry lo|_=>none)else none
   |none=>none
   else none
 |_=>none
def RU (args:X')(H:V'):Option (DV×V'):=
 match args with
 |[.one (.own i XM 0 n),.one (.p (.int .i64 (.ofNat 0))),.one (.p (.int .i64 (.ofNat n2))),.one (.p (.int .i64 (.ofNat lm))),.one fn]=>
  match keyOf H i fn with
  |some o=>bif Nat.blt lm 4611686018427387904 then
   match H[i]? with
   |some b=>match Xv (Xv D9) b.ch with
    |some es=>bif !b.mp&& !b.fz&&Nat.beq XM b.XM&&Nat.beq b.sz 12&&Nat.beq n es.length&&Nat.beq n2 es.length&&Nat.blt es.length 1000000&&es.all isTerm&&Ta es then some (.X9 [],H.set i {b with ch:=(TA o es).map (·.map .p)})else none
    |none=>none
   |none=>none
   else none
  |none=>none
 |[.one (.p .Xq),.one (.p (.int .i64 (.ofNat 0))),.one (.p (.int .i64 (.ofNat 0))),.one (.p (.int .i64 (.ofNat lm))),.one (.fn _ _)]=>bif Nat.blt lm 4611686018427387904 then some (.X9 [],H)else none
 |_=>none
theorem se (c:N'):∀a,jm [] c a=ins c a
 |[]=>rfl
 |d::a=>by unfold jm ins;rw[se c a];rfl
theorem ji:∀a,TA [] a=TH a
 |[]=>rfl
 |c::a=>by unfold TA TH;rw[ji a,se]
theorem BZ {args:X'}{H:V'}{r:DV×V'}(h:iH args H=some r):RU args H=some r:=by
 unfold iH at h;split at h
 ·rename_i i XM n d c g;obtain⟨a,b⟩:=Wg h;rw[Zs]at a;simp only[RU,keyOf,a.1,a.2,cond_true,ji];exact b
 ·cases h
structure eo (B:Xs):Prop extends Std B where
 pdq:∀args H r,RU args H=some r->B.E0.heap 186 args H=some r
theorem vF {B:Xs}(a:Std B){f:PL}{o:M'}(k:TR f o)(h:Vt o)(c:o.length<1000000){x y z u x2 y2 z2 u2:PL}{m n:P'}(d:XD m)(e:XD n):
  Xu B 170 [.agg (x::y::z::u::mo m),.agg (x2::y2::z2::u2::mo n),.one (.ref [f])] (.one (.int .i64 (WX o n m))):=by
 have g:=dB a k h e d c;have i:=d.1;have j:=e.1;have l:(Xw m).take 8=Xw m:=Zd (by rw[Xc];omega);have p:(Xw n).take 8=Xw n:=Zd (by rw[Xc];omega);refine Xu.of (a.Wa _ _ rfl) ((g.Xk.and a.Xk).mono fun E K ⟨e1,b⟩=> ?_);simp only[Xo,Xr,VR,reduceIte,Nat.reduceEqDiff,Nat.reduceLeDiff,Nat.reduceAdd,x170,b,X4,e1,Wj,Xc,i,j,l,p,Wb,Wf]
structure Is (B:Xs):Prop extends Std B where
 pdq:∀args H r,iH args H=some r->B.E0.heap 186 args H=some r
theorem yY {H:V'}{i v:Nat}{a:I'}{c b:Nat}(h:H[i]? =some ⟨false,v,12,pc a,false,c⟩)(k:TK a)(g:Ta a=true)(l:a.length<60000)(j:b<100):
  iH [.one (.own i v 0 a.length),LB 0,LB a.length,LB b,.one (.p (.fn 166 []))] H=
   some (.X9 [],H.set i ⟨false,v,12,pc (TH a),false,c⟩):=by
 have d:Nat.blt b 4611686018427387904=true:=N6 (by omega);have e:Nat.blt a.length 1000000=true:=N6 (by omega);have f:a.all isTerm=true:=ZI.2 k;simp only[iH,YA,d,h,tZ,e,f,g,Bool.and_self,Bool.not_false,cond_true];rfl
abbrev oB (lo:PL):Xx:=⟨false,0,1,[[.p lo]],false,40⟩
theorem uJ {H:V'}{i v j:Nat}{a:I'}{f d:Nat}{e:PL}{o:M'}(x:TR e o)(u:Vt o)(c:o.length<1000000)(r:H[i]? =some ⟨false,v,12,pc a,false,f⟩)(s:H[j]? =some (oB e))(b:j≠i)(w:TK a)(q:Ta a=true)(y:a.length<1000000)(t:d<100):
  RU [.one (.own i v 0 a.length),LB 0,LB a.length,LB d,.one (.fn 170 [.ptr j 0 0 0])] H=
   some (.X9 [],H.set i ⟨false,v,12,pc (TA o a),false,f⟩):=by
 have g:Nat.blt d 4611686018427387904=true:=N6 (by omega);have k:Nat.blt a.length 1000000=true:=N6 (by omega);have l:a.all isTerm=true:=ZI.2 w;have m:Nat.beq j i=false:=by
  cases h:Nat.beq j i with
  |false=>rfl
  |true=>exact absurd (Zl h) b
 have n:=B8 x u c;simp only[RU,keyOf,YA,g,m,n,r,s,tZ,k,l,q,Bool.and_self,Bool.not_false,cond_true];rfl
theorem yi {B:Xs}(b:eo B){H:V'}{i v j:Nat}{a:I'}{h:Nat}{g:PL}{o:M'}(u:TR g o)(s:Vt o)(f:o.length<1000000)(q:H[i]? =some ⟨false,v,12,pc a,false,h⟩)(r:H[j]? =some (oB g))(e:j≠i)(t:TK a)(p:Ta a=true)(w:a.length<60000):
  Ut B 169 [.one (.own i v 0 a.length),.one (.fn 170 [.ptr j 0 0 0])] H (.X9 []) (H.set i ⟨false,v,12,pc (TA o a),false,h⟩):=by
 obtain⟨x,c,l⟩:=O9 b.toStd (n:=a.length) (by omega);have m:=Ut.base (B:=B) (b.pdq _ _ _ (uJ u s f q r e t p (by omega) c));have k:a.length%18446744073709551616=a.length:=Zh (by omega);refine Ut.of (b.Wa _ _ rfl) ((l.Xk.and (m.Xk.and b.toStd.Xk)).mono fun E K ⟨e1,e2,d⟩=> ?_);simp only[Xo,Vx,Xr,reduceIte,Nat.reduceEqDiff,Nat.reduceLeDiff,Nat.reduceAdd,x169,d,X4,e1,e2,k]
theorem vJ {B:Xs}(f:Std B){es:I'}(b:∀c∈es,c.length=12)(q:es.length<1000000)(e:Xx):
  Ut B 168 [.one (.p (.Xn es))] [e] (.one (.own 1 1 0 es.length)) [e,⟨false,1,12,pc es,false,75⟩]:=by
 have a:=fun(h:HF)=>(Sl.Xn (es:=es)).chunks (h:=h)
 have i:es.length*128<=lim:=by unfold lim;omega
 have j:es.length<=9223372036854775807:=by omega
 have o:Uo false [.one (.p (.Xn es)),.one (.p .Xq)]=some ⟨.one (.p (.bool false)),[],[],[]⟩:=rfl;have k:(es.map (·.map DL.p)).all (fun c=>decide (c.length=12))=true:=by
  rw[ZI];intro c g;simp only[ZM]at g;obtain⟨d,m,rfl⟩:=g;simp[b d m]
 have l:(es.map (·.map DL.p)).length=es.length:=by simp
 refine Ut.of (f.Wa _ _ rfl) (f.Xk.mono fun E K n=> ?_);simp only[Xo,Vx,Xr,reduceIte,Nat.reduceEqDiff,Nat.reduceLeDiff,Nat.reduceAdd,x168,a,i,j,o,k,l,pc]
theorem yj {B:Xs}(a:eo B){H:V'}{g:Nat}{caps:Y'}:Ut B 169 [.one (.p .Xq),.one (.fn g caps)] H (.X9 []) H:=by
 obtain⟨c,f,d⟩:=O9 a.toStd (n:=0) (by omega);have h0:Nat.blt c 4611686018427387904=true:=N6 (by omega);have e:=Ut.base (B:=B) (a.pdq [.one (.p .Xq),LB 0,LB 0,LB c,.one (.fn g caps)] H (.X9 [],H) (by simp only[RU,h0,cond_true]));refine Ut.of (a.Wa _ _ rfl) ((d.Xk.and (e.Xk.and a.toStd.Xk)).mono fun E K ⟨e1,e2,b⟩=> ?_);simp only[Xo,Vx,Xr,reduceIte,Nat.reduceEqDiff,Nat.reduceLeDiff,Nat.reduceAdd,x169,b,X4,e1,e2]
theorem vK {B:Xs}(a:Std B)(H:V'):Ut B 168 [.one (.p .Xq)] H (.one (.p .Xq)) H:=by
 have c:Uo false [.one (.p .Xq),.one (.p .Xq)]=some ⟨.one (.p (.bool true)),[],[],[]⟩:=rfl;refine Ut.of (a.Wa _ _ rfl) (a.Xk.mono fun E K b=> ?_);simp only[Xo,Vx,Xr,reduceIte,Nat.reduceEqDiff,Nat.reduceLeDiff,x168,c]
def SI (ts:Z'):Prop:=(ts.map (·.2)).Nodup
theorem fg:∀{e:I'} {a:Z'},X5 e a->SI a->Ta e=true
 |_,_,.nil,_=>rfl
 |_,_,.cons (x:=c) (y:=t) hc h,hd=>by
  obtain⟨l,m⟩:=List.nodup_cons.1 hd;simp only[Ta,Zs];refine⟨ZI.2 fun d f=> ?_,fg h m⟩;obtain⟨i,g⟩:=ZB.1 f;have j:=h.length;obtain⟨o,-⟩:=Zf.1 g;rename_i e a;have b:i<a.length:=by omega
  obtain⟨x,k,p⟩:=h.get i _ (Zg b);rw[g]at k;cases k;rw[hc.mM,p.mM];cases n:jJ Nat.beq t.2 (a[i]).2 with
  |false=>rfl
  |true=>
   exfalso;apply l;show t.2∈a.map (·.2);rw[gj (fun _ _=>Zl) _ _ n];exact ZM.2 ⟨_,YS b,rfl⟩
theorem SA {B:Xs}(b:eo B){w f:PL}{m:Z'}{o:M'}(F:TR f o)(C:Vt o)(t:o.length<1000000)(d:PQ w m)(z:SI m)(I:m.length<60000):
  ∃r,Xu B 140 [.one w,.one f] (.one r)/\PQ r (Vz o m):=by
 obtain⟨a,D,d⟩:=d;have G:=d.length;have k:U8 170 [.one (.ptr 0 0 0 0)]=some ⟨.one (.fn 170 [.ptr 0 0 0 0]),[],[],[]⟩:=rfl;rcases D with rfl|⟨rfl,rfl⟩
 ·have s:=fg d z;have x:=d.Jc;have p:∀c∈a,c.length=12:=fun c y=>QN.len (X5.bU d c y)
  have n:=vJ b.toStd p (by omega) (oB f);have q:=yi b F C t (H:=[oB f,⟨false,1,12,pc a,false,75⟩]) (i:=1) (j:=0) (v:=1) rfl rfl (by decide) x s (by omega);have l:(TA o a).length=a.length:=(Rr a).length_eq;refine⟨.Xn (TA o a),Xu.of (b.Wa _ _ rfl) ((n.Xk.and (q.Xk.and b.toStd.Xk)).mono fun E K ⟨e1,e2,e⟩=> ?_),⟨_,.Xn,d.sort⟩⟩;have u:=WV (TA o a) (YI l);have A:=fun h=>Ve 5 h (TA o a)
  simp only[Xo,Vx,Xr,reduceIte,Nat.reduceEqDiff,Nat.reduceLeDiff,Nat.reduceAdd,x140,k,e,X4,e1,e2,u,A,Wm,l,Ze]
 ·cases d;have n:=vK b.toStd [oB f];have q:=yj b (H:=[oB f]) (g:=170) (caps:=[.ptr 0 0 0 0]);refine⟨.Xq,Xu.of (b.Wa _ _ rfl) ((n.Xk.and (q.Xk.and b.toStd.Xk)).mono fun E K ⟨e1,e2,e⟩=> ?_),⟨[],.nil,.nil⟩⟩;simp only[Xo,Vx,Xr,reduceIte,Nat.reduceEqDiff,Nat.reduceLeDiff,Nat.reduceAdd,x140,k,e,X4,e1,e2]
open Go.Ev
def kW:N':=[(.bool false),.Xq,(.bool false),.Xq,(LA 0),(LA 0),(LA 0),(LA 0),(LA 0),(LA 0),(LA 0),(LA 0)]
def yJ:RM where
 m:=0
 m2:=9
 it:=10
 nx:=11
 ok:=12
 en:=13
 b:=0
 b2:=1
 VW:=8
 ntmps:=28
 results:=[(2,none)]
 BR:=.region false [⟨(some 2),.move,[(.c (.one .Xq))],none,[]⟩]
 BQ:=.region false [⟨(some 6),.move,[(.t 0)],none,[]⟩,⟨(some 7),.OP,[(.t 6)],none,[]⟩,⟨(some 8),(.makeSlice 75 kW 128),[(.c (.one (LA 0))),(.t 7)],none,[]⟩,⟨(some 3),.move,[(.t 8)],none,[]⟩]
 post:=.seq (.region false [⟨(some 25),.move,[(.t 3)],none,[]⟩,⟨(some 26),(.call 165),[(.t 25),(.c (.one (.fn 166 [])))],none,[]⟩]) (.seq (.region false [⟨(some 27),.move,[(.t 3)],none,[]⟩,⟨(some 2),.move,[(.t 27)],none,[]⟩]) .ret)
 tail:=[⟨(some 14),(.extract 0),[(.t 13)],none,[0]⟩,⟨(some 15),(.extract 1),[(.t 13)],none,[0]⟩,⟨(some 4),(.alloc 73 [(LA 0),(LA 0),(LA 0),(LA 0),(LA 0),(LA 0),(LA 0),(LA 0)]),[],none,[]⟩,⟨(some 5),(.alloc 48 [(.bool false),.Xq,(.bool false),.Xq]),[],none,[]⟩,⟨none,(.store 8),[(.t 4),(.t 14)],none,[3,1,0,1,3,4]⟩,⟨none,(.store 4),[(.t 5),(.t 15)],none,[4,2,5,0,1,2,3,4,5]⟩]
 rb:=.seq (.region false [⟨(some 16),(.load true 4),[(.t 5)],none,[]⟩,⟨(some 17),(.call 158),[(.t 16)],none,[]⟩,⟨(some 18),(.bin .neq),[(.t 17),(.c (.one (LA 0)))],none,[]⟩]) (.cond (.t 18) (.region false [⟨(some 19),.move,[(.t 3)],none,[]⟩,⟨(some 20),(.load true 4),[(.t 5)],none,[]⟩,⟨(some 21),(.load true 8),[(.t 4)],none,[]⟩,⟨(some 22),(.build kW [(0,4),(4,8)]),[(.t 20),(.t 21)],none,[]⟩,⟨(some 23),(.buildSlice 75 kW 1 [0]),[(.t 22)],none,[]⟩,⟨(some 24),(.append 75 12 128),[(.t 19),(.t 23)],none,[]⟩,⟨(some 3),.move,[(.t 24)],none,[]⟩]) .skip)
theorem Hb:DH Tryz.prog 132 yJ:=by
 refine⟨⟨Tryz.f132,_,_,_,_,_,_,_,_,_,_,_,_,_,Tryz.func132,rfl,by kernel_rfl,by kernel_rfl,by kernel_rfl,by kernel_rfl,by kernel_rfl,by kernel_rfl,?_⟩⟩;refine⟨⟨rfl,rfl,rfl⟩,⟨_,rfl,rfl,rfl,73,48,by kernel_rfl⟩,⟨rfl,rfl,rfl⟩,⟨rfl,rfl,rfl⟩,⟨rfl,rfl,rfl⟩,by kernel_rfl,by kernel_rfl,?_,?_⟩
 ·exact⟨by decide,by decide,by decide,by decide,by decide⟩
 ·exact⟨by decide,by decide,by decide⟩
end Go.Proofs.YtidginchkjhobaaGreat
namespace Go.Ev
open Go.RowKit
theorem rM {c d:Type}{f:c->Option d}{p:d->Prop}:∀{l:List c},(∀x∈l,∃y,f x=some y/\p y)->∃b,Xv f l=some b/\∀y∈b,p y
 |[],_=>⟨[],rfl,fun _ h=>by cases h⟩
 |x::l,h=>by
  obtain⟨y,e,g⟩:=h x (by simp);obtain⟨b,i,j⟩:=rM fun z a=>h z (Zb _ a)
  refine⟨y::b,by simp only[Xv,e,i],fun z a=> ?_⟩;rcases Zj.1 a with rfl|a
  ·exact g
  ·exact j z a
theorem aj {a:Type}:∀(l:List a) (p:a×List a),p∈Pf l->(p.1::p.2).Perm l
 |[],p,h=>by simp[Pf]at h
 |x::l,p,h=>by
  simp only[Pf,Zj,ZM]at h;rcases h with rfl|⟨q,hq,rfl⟩
  ·exact .refl _
  ·exact(List.Perm.swap ..).trans ((aj l q hq).cons x)
theorem jD {E:Xa}{K:Nat}{e:RM}{a:Nat}(Inv:K'->St->Prop)(b:∀l s,Inv l s->∀p∈Pf l,∃d,Sp E K e a s p.1=some d/\Inv p.2 d):
  ∀(n:Nat) (l:K') (s:St),l.length=n->Inv l s->∃i,P2 E K e a n l s=some i/\∀s∈i,Inv [] s
 |n,[],s,_,hi=>⟨[s],by cases n<;>rfl,fun t g=>by simp at g;subst g;exact hi⟩
 |0,_::_,_,h,_=>by simp at h
 |n+1,c::cs,s,h,hi=>by
  have w:=jD Inv b n;obtain⟨k,u,v⟩:=rM (f:=fun p=>match Sp E K e a s p.1 with
   |some d=>P2 E K e a n p.2 d
   |none=>none) (p:=fun i=>∀s∈i,Inv [] s) (l:=Pf (c::cs)) fun p o=>by
    obtain⟨d,e1,e2⟩:=b _ s hi p o;have j:p.2.length=n:=by
     have:=(aj _ p o).length_eq;simp at this h;omega
    obtain⟨i,q,r⟩:=w p.2 d j e2;exact⟨i,by simp only[e1,q],r⟩
  have m:P2 E K e a (n+1) (c::cs) s=(match Xv (fun p=>match Sp E K e a s p.1 with
   |some d=>P2 E K e a n p.2 d
   |none=>none) (Pf (c::cs))with |some k=>some k.flatten|none=>none):=rfl
  rw[u]at m;refine⟨k.flatten,m,fun t g=> ?_⟩;obtain⟨l,j,g⟩:=List.mem_flatten.1 g;exact v l j t g
theorem PY (H:V')(O:BS)(g:Nat->Nat):Live O g (Xj (H.map VN))=O:=by
 funext q;refine propext ⟨?_,.inl⟩;rintro (f|⟨i,d,a,e,_⟩)
 ·exact f
 ·simp only[Xj,ZD]at a;cases b:H[i]? with
  |none=>simp[b]at a
  |some c=>simp only[b,Z6,Za]at a;subst a;simp[VN]at e
theorem F6 {P:Program}{f:Nat}{H:V'}{id:Nat}{b:Xx}{r:PV}(h:CH P f [.one (.mp 0)] [VN b] (inj r) [VN b])(X:H[id]? =some b)(hm:b.mp=true)(hp:∀c∈b.ch,∀d∈c,∃l,d=.p l):
  CH P f [.one (.mp id)] H (inj r) (H.map VN):=by
 intro w O g vs J o;obtain⟨W,I⟩:=dP (w':=w) J (List.range H.length) (Ze _) (fun _ _=>rfl) rfl rfl rfl;rw[<-tM]at W I;have M:Xj H id=some b:=X;have L:Xj (H.map VN) id=some (VN b):=by simp only[Xj,ZD];rw[X];rfl
 have z:Live O (fun _=>g id) (Xj [VN b])=O:=PY [b] O _;have A:=PY H O g;have D:∀v l,XE w O g (Xj (H.map VN)) v (.p l)->XE w O (fun _=>g id) (Xj [VN b]) v (.p l):=by
  intro v l S;cases S with |p _ _ B=>exact .p _ _ (by rw[z];rw[A]at B;exact B)
 have K:X3 w O (fun _=>g id) (Xj [VN b]):=by
  have h0:∀i x,Xj [VN b] i=some x->i=0/\x=VN b:=by
   intro i x n;cases i with
   |zero=>simp[Xj]at n;exact⟨rfl,n.symm⟩
   |succ i=>simp[Xj]at n
  refine⟨fun i x n=> ?_,fun i j x y n hy _=>by rw[(h0 i x n).1,(h0 j y hy).1],fun i x n=>J.S7 id b M,J.lt⟩;obtain⟨rfl,rfl⟩:=h0 i x n;have m:=I.RH id _ L;unfold Wr at m⊢;have R:(VN b).mp=true:=hm;rw[R,if_pos rfl]at m⊢;by_cases ht:Nat.beq (VN b).ty 2=true
  ·rw[if_pos ht]at m⊢;exact m
  ·rw[if_neg ht]at m⊢;obtain⟨es,G,e1,e2,V⟩:=m;refine⟨es,G,e1,e2,XB.Uj V.length fun i e c N Y=> ?_⟩;obtain⟨e',u,kv,xv,q1,q2,q3,q4⟩:=V.get i c Y;rw[N]at u;cases u;refine⟨kv,xv,q1,q2,q3,XB.Uj q4.length fun j v d T Z=> ?_⟩;obtain⟨l,rfl⟩:=hp c (Zk Y) d (Zk Z);obtain⟨v',C,S⟩:=q4.get j _ Z;rw[T]at C;cases C;exact D _ _ S
 have a:XB (XA w O (fun _=>g id) (Xj [VN b])) vs [.one (.mp 0)]:=by
  cases o with |cons E t=> ?_
  cases t;refine .cons ?_ .nil;have E:XE w O g (Xj H) _ (.mp id):=E;generalize a2:(‹Value›:Value)=v1 at E;cases E with |mp _ _ _ _=>exact XE.mp 0 (VN b) rfl hm
 refine(h w O (fun _=>g id) vs K a).mono fun e F ⟨v,U,N,T,a0,q⟩=> ?_
 have Q:Live O U (Xj [VN b])=O:=PY [b] O _;have s:∀k,k<w.heap.size->F.heap[k]? =w.heap[k]? :=by
  intro k m;by_cases ho:O k
  ·exact q.N1 k ho
  ·exact q.keeps.VM k m (by rw[z];exact ho)
 obtain⟨gm,gi⟩:=Te (w':=F) I q.keeps.size s q.os q.tape q.output;refine⟨v,g,N,dM (fun v l B=> ?_) T,gi,W.trans gm⟩;rw[Q]at B;rw[A];exact B
end Go.Ev
namespace Go.Proofs.YtidginchkjhobaaGreat
open Go.Ev Go.Num
def dZ (c:Y'):Option N':=
 match Xv D9 c with
 |some l=>match l.drop 8 with
  |[.bool n,y,z,u]=>match y with
   | .Xq=>bif isTerm (.bool n::y::z::u::l.take 8)then some (.bool n::y::z::u::l.take 8)else none
   | .Xn _=>bif isTerm (.bool n::y::z::u::l.take 8)then some (.bool n::y::z::u::l.take 8)else none
   |_=>none
  |_=>none
 |none=>none
def nz (t:N'):Bool:=match t with
 |_::.Xn (_::_)::_=>true
 |_=>false
def R4 (args:X')(H:V'):Option (DV×V'):=
 match args with
 |[.one (.mp i)]=>match H[i]? with
  |some b=>bif b.mp&&Nat.beq b.ty 1&&Nat.beq b.sz 8&&Nat.blt b.ch.length 60000 then
    match Xv dZ b.ch with
    |some ts=>bif Ta ts then some (inj (.one (.Xn (TH (ts.filter nz)))),H.map VN)else none
    |none=>none
   else none
  |none=>none
 |_=>none
theorem NK {c:Y'}{t:N'}(h:dZ c=some t):∃n y z u m a,c=Xw m++[.p (.bool n),.p y,.p z,.p u]/\t=.bool n::y::z::u::mo m/\XD m/\Sl y a/\nz t= !a.isEmpty:=by
 unfold dZ at h;split at h
 ·rename_i l i;have f:=nF i;split at h
  ·rename_i n y z u g;have key:∀a,Sl y a->(bif isTerm (.bool n::y::z::u::l.take 8)then some (.bool n::y::z::u::l.take 8)else none)=some t->nz (.bool n::y::z::u::l.take 8)= !a.isEmpty->∃n y z u m a,c=Xw m++[.p (.bool n),.p y,.p z,.p u]/\t=.bool n::y::z::u::mo m/\XD m/\Sl y a/\nz t= !a.isEmpty:=by
    intro a j h k;obtain⟨d,rfl⟩:=XX h;obtain⟨q,r,s,o,e,b⟩:=Wp d;generalize Uk (.bool n::y::z::u::l.take 8)=m at e b;simp only[ZH]at e;obtain⟨-,-,-,-,e⟩:=e;refine⟨n,y,z,u,m,a,?_,by rw[e],b,j,k⟩;rw[f,<-List.take_append_drop 8 l,g,List.map_append,e,Wj];rfl
   split at h
   ·exact key [] .nil h rfl
   ·rename_i a;exact key a .Xn h (by cases a<;>rfl)
   ·cases h
  ·cases h
 ·cases h
theorem Bb {B:Xs}(b:Std B){n:Bool}{y z u:PL}{d:I'}(e:Sl y d):
  ∃s,Xu B 158 [.agg [.bool n,y,z,u]] (.one (.int .i64 s))/\Oi s (.ofNat 0)=d.isEmpty:=by
 have key:∃s,Xu B 146 [.agg [.bool n,y]] (.one (.int .i64 s))/\Oi s (.ofNat 0)=d.isEmpty:=by
  cases d with
  |nil=>
   refine⟨.ofNat 0,Xu.of (b.Wa _ _ rfl) (b.Xk.mono fun E K a=> ?_),rfl⟩;simp only[Xo,Xr,reduceIte,Nat.reduceEqDiff,Nat.reduceLeDiff,Nat.reduceAdd,x146,e.len]
  |cons c d=>
   have h0:¬d.length+1=0:=by omega
   cases n with
   |true=>
    refine⟨.negSucc 0,Xu.of (b.Wa _ _ rfl) (b.Xk.mono fun E K a=> ?_),rfl⟩;simp only[Xo,Xr,reduceIte,Nat.reduceEqDiff,Nat.reduceLeDiff,Nat.reduceAdd,x146,e.len,h0]
   |false=>
    refine⟨.ofNat 1,Xu.of (b.Wa _ _ rfl) (b.Xk.mono fun E K a=> ?_),rfl⟩;simp only[Xo,Xr,reduceIte,Nat.reduceEqDiff,Nat.reduceLeDiff,Nat.reduceAdd,x146,e.len,h0]
 obtain⟨s,f,g⟩:=key;refine⟨s,Xu.of (b.Wa _ _ rfl) ((f.Xk.and b.Xk).mono fun E K ⟨e1,a⟩=> ?_),g⟩;simp only[Xo,Xr,reduceIte,Nat.reduceEqDiff,Nat.reduceLeDiff,Nat.reduceAdd,x158,a,X4,e1]
theorem DU {a b:Type}{p q:a->b->Prop}{x:a}{y:b}(h:p x y)(k:q x y):∃x y,p x y/\q x y:=⟨x,y,h,k⟩
abbrev IK:Xx:=⟨true,0,0,[],true,2⟩
theorem Br {E:Xa}{K:Nat}(f:E.mode=md){n:Bool}{y z u:PL}{m:P'}(q:m.length=8){s:Int}(r:E.pure 158 [.agg [.bool n,y,z,u]]=some (.one (.int .i64 s)))(h0:Oi s (.ofNat 0)=false)
  {B0:Xx} {T:List (Nat×DV)} {v:Nat} {o:I'} {G:V'} (A:o.length<100000) (g:Xh T 3=some (.one (.own 1 v 0 o.length))) (d:Xh T 10=some (.one (.ptr 2 0 0 0))):
  ∃e h,Sp E K yJ 2 ⟨T,B0::⟨false,v,12,pc o,false,75⟩::IK::G⟩ (Xw m++[.p (.bool n),.p y,.p z,.p u])=some ⟨e,B0::⟨false,v+1,12,pc (o++[.bool n::y::z::u::mo m]),false,75⟩::IK::h⟩/\
   Xh e 3=some (.one (.own 1 (v+1) 0 (o.length+1)))/\Xh e 10=some (.one (.ptr 2 0 0 0)):=by
 have t:(Xw m++[DL.p (.bool n),.p y,.p z,.p u]).take 8=Xw m:=by rw[List.take_append_of_le_length (by rw[Xc];omega),Zd (by rw[Xc];omega)]
 have i:(Xw m++[DL.p (.bool n),.p y,.p z,.p u]).drop 8=[.p (.bool n),.p y,.p z,.p u]:=by
  rw[YT (by rw[Xc];omega),Zo (by rw[Xc];omega)];rfl
 have w:(Xw m).take 8=Xw m:=Zd (by rw[Xc];omega);have x:(Xw m).drop 8=[]:=Zo (by rw[Xc];omega);have j:(o.length+1)*128<=lim:=by unfold lim;omega
 have k:o.length+1<=9223372036854775807:=by omega
 have l:∀(a b c:Xx),(G++[a,b]++[c])[G.length+2]? =some c:=by intro a b c;simp
 apply DU
 ·unfold Sp;simp only[Xo,Xr,VR,yJ,kW,t,i,reduceIte,Nat.reduceEqDiff,Nat.reduceLeDiff,Nat.reduceLT,Nat.reduceAdd,g,d,q,Xc,w,f,X4,r,h0,j,k,Wm,VL,l,ve];rfl
 ·simp only[Xo,reduceIte,Nat.reduceEqDiff,g,d,and_self]
theorem EB {E:Xa}{K:Nat}(c:E.mode=md){n:Bool}{y z u:PL}{m:P'}(g:m.length=8){s:Int}(h:E.pure 158 [.agg [.bool n,y,z,u]]=some (.one (.int .i64 s)))(h0:Oi s (.ofNat 0)=true)
  {B0:Xx} {T:List (Nat×DV)} {v:Nat} {o:I'} {G:V'} (f:Xh T 3=some (.one (.own 1 v 0 o.length))) (a:Xh T 10=some (.one (.ptr 2 0 0 0))):
  ∃b d,Sp E K yJ 2 ⟨T,B0::⟨false,v,12,pc o,false,75⟩::IK::G⟩ (Xw m++[.p (.bool n),.p y,.p z,.p u])=some ⟨b,B0::⟨false,v,12,pc o,false,75⟩::IK::d⟩/\
   Xh b 3=some (.one (.own 1 v 0 o.length))/\Xh b 10=some (.one (.ptr 2 0 0 0)):=by
 have i:(Xw m++[DL.p (.bool n),.p y,.p z,.p u]).take 8=Xw m:=by rw[List.take_append_of_le_length (by rw[Xc];omega),Zd (by rw[Xc];omega)]
 have e:(Xw m++[DL.p (.bool n),.p y,.p z,.p u]).drop 8=[.p (.bool n),.p y,.p z,.p u]:=by
  rw[YT (by rw[Xc];omega),Zo (by rw[Xc];omega)];rfl
 have k:(Xw m).take 8=Xw m:=Zd (by rw[Xc];omega);have j:(Xw m).drop 8=[]:=Zo (by rw[Xc];omega);apply DU
 ·unfold Sp;simp only[Xo,Xr,VR,yJ,kW,i,e,reduceIte,Nat.reduceEqDiff,Nat.reduceLeDiff,Nat.reduceAdd,a,g,Xc,c,X4,h,h0,ve];rfl
 ·simp only[Xo,reduceIte,Nat.reduceEqDiff,f,a,and_self]
theorem yk {B:Xs}(b:Is B){L:Nat}(h:L<60000):XS B fun E _=>∀(H:V') (i v e:Nat) (a:I'),a.length=L->H[i]? =some ⟨false,v,12,pc a,false,e⟩->TK a->Ta a=true->
  E.heap 165 [.one (.own i v 0 a.length),.one (.p (.fn 166 []))] H=some (.X9 [],H.set i ⟨false,v,12,pc (TH a),false,e⟩):=by
 obtain⟨w,c,g⟩:=O9 b.toStd (n:=L) (by omega);obtain⟨N,k⟩:=g.Xk;obtain⟨M,j⟩:=b.toStd.Xk;refine⟨max N M+1,fun K n t u=> ?_⟩;obtain⟨n,rfl⟩:∃r,n=r+1:=⟨n-1,by omega⟩;have e1:=k K n (by omega) (by omega);have d:=j K n (by omega) (by omega);intro H i v e a m o q l;subst m;have e2:(B.E K n).heap _ _ _=_:=(B.F5 (K:=0) (n:=0) (Zw K) (Zw n)).heap _ _ _ _ (b.pdq _ _ _ (yY o q l h c));have f:a.length%18446744073709551616=a.length:=Zh (by omega);show(match B.X 165 with
  |some s=>VD (B.E K n) K s [.one (.own i v 0 a.length),.one (.p (.fn 166 []))] H
  |none=>(B.E K n).heap 165 [.one (.own i v 0 a.length),.one (.p (.fn 166 []))] H)=_
 rw[b.toStd.Wa 165 x165 rfl];simp only[Xo,Vx,Xr,reduceIte,Nat.reduceEqDiff,Nat.reduceLeDiff,Nat.reduceAdd,x165,d,X4,e1,e2,f]
def F1 (E:Xa)(ts:I'):Prop:=∀t∈ts,∀n y z u m,t=.bool n::y::z::u::m->∃s,E.pure 158 [.agg [.bool n,y,z,u]]=some (.one (.int .i64 s))/\Oi s (.ofNat 0)= !nz t
theorem lH {B:Xs}(g:Std B):∀{ch:K'} {b:I'},Xv dZ ch=some b->XS B fun E _=>F1 E b
 |[],b,h=>by cases h;exact XS.of fun _ _ t d=>by cases d
 |c::ch,b,h=>by
  simp only[Xv]at h;split at h
  ·cases h
  ·rename_i t d;split at h
   ·cases h
   ·rename_i v f;cases h;obtain⟨n,y,z,u,m,i,-,rfl,-,l,o⟩:=NK d;obtain⟨s,j,k⟩:=Bb g (n:=n) (z:=z) (u:=u) l;refine((lH g f).and j.Xk).mono fun E K ⟨e1,e2⟩ r a q x A w p e=> ?_
    rcases Zj.1 a with rfl|a
    ·simp only[ZH,PL.bool.injEq]at e;obtain⟨rfl,rfl,rfl,rfl,-⟩:=e;exact⟨s,e2,by rw[k,o];cases i<;>rfl⟩
    ·exact e1 r a q x A w p e
end Go.Proofs.YtidginchkjhobaaGreat
