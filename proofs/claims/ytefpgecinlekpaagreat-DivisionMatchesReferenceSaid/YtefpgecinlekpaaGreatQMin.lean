/- Monomials sorted: what the library's sort answers, Clone, SortFunc. -/
import Derived.Test.YtefpgecinlekpaaGreatQBas
import Derived.Test.YtefpgecinlekpaaGreatGr
set_option maxHeartbeats 16000000
set_option maxRecDepth 100000
namespace Go.Num
def fU (m:List Nat):List (List Nat)->List (List Nat)
 |[]=>[m]
 |n::l=>if Wj n m=.negSucc 0 then n::fU m l else m::n::l
def Vz:List (List Nat)->List (List Nat)
 |[]=>[]
 |m::l=>fU m (Vz l)
theorem NB (m:List Nat):∀l,(fU m l).Perm (m::l)
 |[]=>.refl _
 |n::l=>by
  unfold fU;split
  ·exact((NB m l).cons n).trans (.swap ..)
  ·exact .refl _
theorem Ve:∀l,(Vz l).Perm l
 |[]=>.refl _
 |m::l=>(NB m _).trans ((Ve l).cons m)
end Go.Num
namespace Go.Proofs.YtefpgecinlekpaaGreat
open Go.Ev Go.Num
def O5 (c:List PL):List Nat:=(Xt kX c).getD []
def UP (c:List PL):Bool:=Nat.beq c.length 8&&(Xt kX c).isSome
theorem VT {c:List PL}(h:UP c=true):c=mo (O5 c)/\XL (O5 c):=by
 unfold UP at h;rw[Zp]at h;cases a:Xt kX c with
 |none=>rw[a]at h;cases h.2
 |some m=>
  obtain⟨b,d⟩:=kW a;have e:O5 c=m:=by unfold O5;rw[a];rfl
  rw[e];refine⟨b,?_,d⟩;have:=Zm h.1;rw[b,Xy]at this;exact this
theorem OU {m:List Nat}(h:XL m):UP (mo m)=true/\O5 (mo m)=m:=by
 have a:=lh h.2;have b:Nat.beq (mo m).length 8=true:=by rw[Xy,h.1];rfl
 exact⟨by unfold UP;rw[a,b];rfl,by unfold O5;rw[a];rfl⟩
def Ot (x y:List PL):Int:=Wj (O5 x) (O5 y)
theorem Ak {x:List PL}:¬Ot x x<0:=by unfold Ot;rw[U0];decide
theorem gI {m n:List Nat}:Wj m n<0↔Wj m n=.negSucc 0:=by
 rcases WA m n with h|h|h<;>rw[h]<;>decide
theorem ub {x y z:List PL}(c:UP x=true)(d:UP y=true)(e:UP z=true)(a:Ot x y<0)(b:Ot y z<0):Ot x z<0:=by
 have f:=(VT c).2.1;have g:=(VT d).2.1;have h:=(VT e).2.1;unfold Ot at *;rw[gI,Sx]at *;exact Tw (by omega) (by omega) b a
theorem pj {x y:List PL}(c:UP x=true)(d:UP y=true)(b:¬Ot x y<0)(a:¬Ot y x<0):x=y:=by
 obtain⟨e1,e,-⟩:=VT c;obtain⟨e2,f,-⟩:=VT d;unfold Ot at *;rw[gI]at b a;rw[Sx]at a;rcases WA (O5 x) (O5 y)with h|h|h
 ·exact absurd h a
 ·exact absurd h b
 ·rw[e1,e2,VQ (by omega) h]
theorem Aj {x y z:List PL}(d:UP x=true)(e:UP y=true)(g:UP z=true)(f:¬Ot x y<0)(a:¬Ot y z<0):¬Ot x z<0:=by
 intro b;by_cases c:Ot y x<0
 ·exact a (ub e d g c b)
 ·exact a (by rw[<-pj d e f c];exact b)
def Q5 (es:List (List PL)):List (List PL):=(Vz (es.map O5)).map mo
abbrev kl (es:List (List PL)):Prop:=∀c∈es,UP c=true
theorem BH {a:List (List PL)}(h:kl a):(a.map O5).map mo=a:=by
 rw[List.map_map];conv=>rhs;rw[<-List.map_id a]
 exact List.map_congr_left fun c b=>(VT (h c b)).1.symm
theorem mO {a:List (List PL)}(h:kl a):(Q5 a).Perm a:=by
 have:=(Ve (a.map O5)).map mo
 rwa[BH h]at this
theorem aA {m:List Nat}(f:m.length=8):∀{l:List (List Nat)},(∀n∈l,n.length=8)->l.Pairwise (fun x y=>¬Wj y x=.negSucc 0)->(fU m l).Pairwise fun x y=>¬Wj y x=.negSucc 0
 |[],_,_=>by simp[fU]
 |n::l,h8,h=>by
  have j:=h8 n (Ze ..);have e:∀x∈l,x.length=8:=fun x a=>h8 x (Zc _ a)
  obtain⟨d,i⟩:=Zr.1 h;unfold fU;split
  ·rename_i c;refine Zr.2 ⟨fun x a=> ?_,aA f e i⟩;rcases Zk.1 ((NB m l).mem_iff.1 a)with rfl|a
   ·intro b;rw[Sx]at c b;have:=Tw (by omega) (by omega) c b;rw[U0]at this;simp at this
   ·exact d x a
  ·rename_i c;refine Zr.2 ⟨fun x a=> ?_,h⟩;rcases Zk.1 a with rfl|a
   ·exact c
   ·intro b;have g:=e x a;rcases WA n m with h3|h3|h3
    ·rw[Sx]at b;have:=Tw (by omega) (by omega) h3 b;exact d x a ((Sx n x).2 this)
    ·exact c h3
    ·have:=VQ (by omega) h3;subst this;exact d x a b
theorem Qj:∀{l:List (List Nat)},(∀n∈l,n.length=8)->(Vz l).Pairwise fun x y=>¬Wj y x=.negSucc 0
 |[],_=>.nil
 |m::l,h=>aA (h m (Ze ..)) (fun n a=>h n (Zc _ ((Ve l).mem_iff.1 a))) (Qj fun x b=>h x (Zc _ b))
theorem ik {b:List (List PL)}(h:kl b):(Q5 b).Pairwise fun x y=>¬Ot y x<0:=by
 unfold Q5;have d:∀n∈b.map O5,XL n:=fun n a=>by
  obtain⟨c,e,rfl⟩:=ZH.1 a;exact(VT (h c e)).2
 have f:=Qj (l:=b.map O5) fun n a=>(d n a).1
 rw[YV];refine f.imp_of_mem fun{x y} g i a=> ?_
 unfold Ot;rw[(OU (d x ((Ve _).mem_iff.1 g))).2,(OU (d y ((Ve _).mem_iff.1 i))).2,gI];exact a
def OK (args:List DV)(H:List Xz):Option (DV×List Xz):=
 match args with
 |[.one (.own i XZ 0 n),.one (.p (.int .i64 (.ofNat 0))),.one (.p (.int .i64 (.ofNat n2))),.one (.p (.int .i64 (.ofNat lm))),.one (.p (.fn g []))]=>
  bif Nat.beq g 95&&Nat.blt lm 4611686018427387904 then
   match H[i]? with
   |some b=>match Xt (Xt AH) b.ch with
    |some es=>bif !b.mp&& !b.fz&&Nat.beq XZ b.XZ&&Nat.beq b.sz 8&&Nat.beq n es.length&&Nat.beq n2 es.length&&Nat.blt es.length 1000000&&es.all UP then some (.XY [],H.set i {b with ch:=(Q5 es).map (·.map .p)})else none
    |none=>none
   |none=>none
  else none
 |[.one (.p .XJ),.one (.p (.int .i64 (.ofNat 0))),.one (.p (.int .i64 (.ofNat 0))),.one (.p (.int .i64 (.ofNat lm))),.one (.p (.fn _ []))]=>some (.XY [],H)
 |_=>none
structure wM (B:Xr):Prop extends StdB B where
 E5:∀args H r,OK args H=some r->B.E0.heap 140 args H=some r
abbrev V3 (v:Nat)(es:List (List PL)):Xz:=⟨false,v,8,pc es,false,51⟩
theorem qc {B:Xr}(a:wM B){H:List Xz}{i v:Nat}{es:List (List PL)}(h:H[i]? =some (V3 v es))(k:kl es)(l:es.length<60000):
  UA B 107 [.one (.own i v 0 es.length),.one (.p (.fn 95 []))] H (.XY []) (H.set i (V3 v (Q5 es))):=by
 obtain⟨c,j,e⟩:=S1 a.toStd (n:=es.length) (by omega);have e1:Nat.blt c 4611686018427387904=true:=PF (by omega);have e2:Nat.blt es.length 1000000=true:=PF (by omega);have e3:es.all UP=true:=ZP.2 k;have g:OK [.one (.own i v 0 es.length),.one (.p (.int .i64 (.ofNat 0))),.one (.p (.int .i64 (.ofNat es.length))),.one (.p (.int .i64 (.ofNat c))),.one (.p (.fn 95 []))] H=some (.XY [],H.set i (V3 v (Q5 es))):=by
  simp only[OK,YG,e1,h,kq,e2,e3,YT,Bool.not_false,cond_true];rfl
 have f:=UA.base (B:=B) (a.E5 _ _ _ g);have d:es.length%18446744073709551616=es.length:=Zf (by omega);refine UA.of (a.X6 _ _ rfl) ((e.Xi.and (f.Xi.and a.toStd.Xi)).mono fun E K ⟨e1,e2,b⟩=> ?_);simp only[Xp,WR,Xq,reduceIte,Nat.reduceEqDiff,Nat.reduceLeDiff,Nat.reduceAdd,x107,b,XW,e1,e2,d]
theorem mN {B:Xr}(a:wM B){H:List Xz}:UA B 107 [.one (.p .XJ),.one (.p (.fn 95 []))] H (.XY []) H:=by
 obtain⟨f,e,c⟩:=S1 a.toStd (n:=0) (by omega);have d:=UA.base (B:=B) (a.E5 [.one (.p .XJ),.one (.p (.int .i64 (.ofNat 0))),.one (.p (.int .i64 (.ofNat 0))),.one (.p (.int .i64 (.ofNat f))),.one (.p (.fn 95 []))] H (.XY [],H) rfl);refine UA.of (a.X6 _ _ rfl) ((c.Xi.and (d.Xi.and a.toStd.Xi)).mono fun E K ⟨e1,e2,b⟩=> ?_);simp only[Xp,WR,Xq,reduceIte,Nat.reduceEqDiff,Nat.reduceLeDiff,Nat.reduceAdd,x107,b,XW,e1,e2]
theorem pk {B:Xr}(e:Std B){es:List (List PL)}(b:∀c∈es,c.length=8)(o:es.length<1000000):
  UA B 106 [.one (.p (.Xv es))] [] (.one (.own 0 1 0 es.length)) [V3 1 es]:=by
 have a:=fun(h:HF)=>(Sl.Xv (es:=es)).chunks (h:=h)
 have g:es.length*64<=lim:=by unfold lim;omega
 have i:es.length<=9223372036854775807:=by omega
 have n:VS false [.one (.p (.Xv es)),.one (.p .XJ)]=some ⟨.one (.p (.bool false)),[],[],[]⟩:=rfl;have j:(es.map (·.map DL.p)).all (fun c=>decide (c.length=8))=true:=by
  rw[ZP];intro c f;simp only[ZH]at f;obtain⟨d,l,rfl⟩:=f;simp[b d l]
 have k:(es.map (·.map DL.p)).length=es.length:=by simp
 refine UA.of (e.X6 _ _ rfl) (e.Xi.mono fun E K m=> ?_);simp only[Xp,WR,Xq,reduceIte,Nat.reduceEqDiff,Nat.reduceLeDiff,Nat.reduceAdd,x106,a,g,i,n,j,k];rfl
theorem lQ {B:Xr}(a:Std B)(H:List Xz):UA B 106 [.one (.p .XJ)] H (.one (.p .XJ)) H:=by
 have c:VS false [.one (.p .XJ),.one (.p .XJ)]=some ⟨.one (.p (.bool true)),[],[],[]⟩:=rfl;refine UA.of (a.X6 _ _ rfl) (a.Xi.mono fun E K b=> ?_);simp only[Xp,WR,Xq,reduceIte,Nat.reduceEqDiff,Nat.reduceLeDiff,x106,c]
abbrev cw (l:PL)(ms:List (List Nat)):Prop:=Sl l (ms.map mo)
theorem CT {E:Xb}{K:Nat}(j:E.mode=md){y:PL}{m:List Nat}(q:m.length=8){a:List (List Nat)}(z:cw y a)(J:a.length<1000000)(t:∀d∈a,d.length=8)(u:∀d∈a,E.pure 139 [.agg (mo d),.agg (mo m)]=some (.one (.bool (X9 d m)))):∀(rest:List (List Nat)) (i k:Nat) (G:List Xz),a.drop i=rest->i+rest.length=a.length->rest.length<k->
  ∃l n,Xc E K 0 [2,7,8,9] x109_1 k ⟨[(2,.one (.ptr 0 0 0 0)),(7,.one (.p y)),(8,.one (.p (.int .i64 (.ofNat a.length)))),(9,.one (.p (.int .i64 (.ofNat i))))],⟨false,0,8,[Xm m],false,51⟩::G⟩=some (if rest.any (fun d=>X9 d m)=true then .ret else .exit 0,⟨l,n⟩)/\(rest.any (fun d=>X9 d m)=true->Xh l 4=some (.one (.p (.bool true))))
 |[],i,k,G,_,hi,hk=>by
  obtain⟨k,rfl⟩:∃r,k=r+1:=⟨k-1,by omega⟩;have e:¬i<a.length:=by simp at hi;omega
  apply zD
  ·rw[Xc];simp only[Xp,Xq,reduceIte,Nat.reduceEqDiff,x109_1,e,List.any_nil];rfl
  ·intro h;cases h
 |d::rest,i,k,G,hdr,hi,hk=>by
  obtain⟨k,rfl⟩:∃r,k=r+1:=⟨k-1,by omega⟩;simp only[Zi]at hi hk;have e:i<a.length:=by omega
  obtain⟨s,C⟩:=Xf hdr;have f:=Zt s;have o:=t d f;have e1:=u d f;have x:=fun(I:HF) (L:IntKind)=>z.idx (h:=I) (k:=L) (sz:=8) (c:=mo d) (i:=i) (by rw[Zx,s];rfl) (by rw[Xy,o])
  have D:Xe .i64 (.ofNat (i+1))=.ofNat (i+1):=wrap_i64 (by omega);have B:(Xm m).take 8=Xm m:=Zb (by rw[Xa];omega);have A:(Xm d).take 8=Xm d:=Zb (by rw[Xa];omega);have dd:(Xm d).drop 8=[]:=Zj (by rw[Xa];omega);have w:=Xo d;by_cases g:X9 d m=true
  ·rw[g]at e1;have b:(d::rest).any (fun d=>X9 d m)=true:=by rw[List.any_cons,g];rfl
   rw[b];apply zD
   ·rw[Xc];simp(decide:=true)only[Xp,Xq,WR,reduceIte,Nat.reduceAdd,x109_1,j,XW,e,x,e1,q,o,B,A,w,XS,Xa,XK,XN,Wa,Wf,Zl,Zs];rfl
   ·intro _;simp only[Xp,reduceIte,Nat.reduceEqDiff]
  ·have v:X9 d m=false:=by simpa using g
   rw[v]at e1;have b:(d::rest).any (fun d=>X9 d m)=rest.any fun d=>X9 d m:=by rw[List.any_cons,v];rfl
   rw[b];obtain⟨l,n,F,H⟩:=CT j q z J t u rest (i+1) k (G++[⟨false,0,8,[Xm d],false,51⟩]) C (by omega) (by omega);refine⟨l,n,?_,H⟩;rw[Xc];simp(decide:=true)only[Xp,Xq,WR,reduceIte,Nat.reduceAdd,x109_1,j,XW,e,x,D,e1,q,o,B,A,w,XS,Xa,XK,XN,Wa,Wf,Zl,Zs];exact F
theorem DR {B:Xr}(g:Std B){l:PL}{m:List Nat}(f:m.length=8){b:List (List Nat)}(n:cw l b)(o:b.length<1000000)(j:∀d∈b,d.length=8):Xs B 109 [.agg (mo m),.one l] (.one (.bool (b.any fun d=>X9 d m))):=by
 have h:X0 B fun E _=>∀d∈b,E.pure 139 [.agg (mo d),.agg (mo m)]=some (.one (.bool (X9 d m))):=Vg (p:=fun d E _=>E.pure 139 [.agg (mo d),.agg (mo m)]=some (.one (.bool (X9 d m)))) fun d h=>(Pd g (j d h) f).Xi
 refine Xs.of (g.X6 _ _ rfl) ((h.and (g.Xi.and (X0.ge (b.length+1)))).mono fun E K ⟨e1,i,s⟩=> ?_);obtain⟨r,q,c,e⟩:=CT (K:=K) i f n o j e1 b 0 K [] rfl (by omega) (by omega);have a:=n.len;rw[Zy]at a;cases k:b.any fun d=>X9 d m with
 |true=>
  rw[k]at c e;have e:=e rfl;simp(decide:=true)only[Xp,Xq,reduceIte,x109,a,XS,Xa,f,c,e]
 |false=>
  rw[k]at c;simp only[Zz,if_false]at c;simp(decide:=true)only[Xp,Xq,reduceIte,x109,a,XS,Xa,f,c]
theorem yT {B:Xr}(b:Std B){f:PL}{m:List Nat}(e:m.length=8){a:List (List Nat)}(j:cw f a)(i:a.length<1000000)(h:∀d∈a,d.length=8):Xs B 108 [.agg (mo m),.one (.ref [f])] (.one (.bool (a.any fun d=>X9 d m))):=by
 have g:=DR b e j i h;have k:(Xm m).take 8=Xm m:=Zb (by rw[Xa];omega);refine Xs.of (b.X6 _ _ rfl) ((g.Xi.and b.Xi).mono fun E K ⟨e1,c⟩=> ?_);simp(decide:=true)only[Xp,Xq,WR,reduceIte,x108,c,XW,e1,XS,Xa,e,k,XK,XN]
theorem u7 {E:Xb}{K k id v i j:Nat}{c:List (List PL)}{x y:List PL}{H:List Xz}(g:H[id]? =some (V3 v c))(o:c[i]? =some x)(e:c[j]? =some y)(z:x.length=8)(A:y.length=8)(h:i<j)(P:c.length<1000000):
  Xc E K 0 [0,2,3] x110_1 (k+1) ⟨[(0,.one (.own id v 0 c.length)),(2,.one (.p (.int .i64 (.ofNat i)))),(3,.one (.p (.int .i64 (.ofNat j))))],H⟩=
   Xc E K 0 [0,2,3] x110_1 k ⟨[(0,.one (.own id v 0 c.length)),(2,.one (.p (.int .i64 (.ofNat (i+1))))),(3,.one (.p (.int .i64 (.ofNat (j-1)))))],H.set id (V3 v ((c.set i y).set j x))⟩:=by
 have l:i<c.length:=(Zd.mp o).1;have m:j<c.length:=(Zd.mp e).1;have d:id<H.length:=(Zd.mp g).1;have B:(pc c)[i]? =some (x.map DL.p):=by simp[pc,o]
 have C:(pc c)[j]? =some (y.map DL.p):=by simp[pc,e]
 have F:(x.map DL.p).length=8:=by simp[z]
 have G:(y.map DL.p).length=8:=by simp[A]
 have L:(x.map DL.p).take 8=x.map DL.p:=Zb (by omega);have M:(y.map DL.p).take 8=y.map DL.p:=Zb (by omega);have r:(x.map DL.p).drop 8=[]:=Zj (by omega);have s:(y.map DL.p).drop 8=[]:=Zj (by omega);have N:=Oz x;have O:=Oz y;have t:Xe .i64 (.ofNat (i+1))=.ofNat (i+1):=wrap_i64 (by omega);have u:Xe .i64 (Int.ofNat j-Int.ofNat 1)=.ofNat (j-1):=Wh (by omega) (by omega);have I:(pc c).set i (y.map DL.p)=pc (c.set i y):=by simp[pc,List.map_set]
 have J:(pc (c.set i y)).set j (x.map DL.p)=pc ((c.set i y).set j x):=by simp[pc,List.map_set]
 have D:(pc (c.set i y))[j]? =some (y.map DL.p):=by
  have :(c.set i y)[j]? =some y:=by rw[ZB (by omega)];exact e
  simp only[pc,Zx,this,ZU]
 have n:∀a b,(H.set id a).set id b=H.set id b:=fun a b=>List.set_set ..
 have f:∀a,(H.set id a)[id]? =some a:=fun a=>Yi d
 have w:(pc c).length=c.length:=Wi c;have c3:(H.length<=id)=False:=by simp;omega
 have q:(pc (c.set i y)).length=c.length:=by rw[Wi,ZZ]
 simp only[V3]at g;rw[Xc];simp(decide:=true)only[Xp,Xq,VN,reduceIte,Nat.reduceEqDiff,Nat.reduceAdd,x110_1,h,g,l,m,B,C,D,F,G,L,M,r,s,N,O,t,u,I,J,n,f,c3,ZZ,Zs]
def Fu (orig cur:List (List PL))(i:Nat):Prop:=cur.length=orig.length/\∀p,p<orig.length->cur[p]? =if p<i\/orig.length-i<=p then orig[orig.length-1-p]? else orig[p]?
theorem xU {E:Xb}{K id v:Nat}{a:List (List PL)}(z:∀c∈a,c.length=8)(I:a.length<1000000):∀(d i k:Nat) (b:List (List PL)) (H:List Xz),Fu a b i->2*i<=a.length->a.length-2*i<=d->d<k->0<a.length->i<=a.length-1->H[id]? =some (V3 v b)->
  ∃u,Xc E K 0 [0,2,3] x110_1 k ⟨[(0,.one (.own id v 0 a.length)),(2,.one (.p (.int .i64 (.ofNat i)))),(3,.one (.p (.int .i64 (.ofNat (a.length-1-i)))))],H⟩=some (.exit 0,⟨u,H.set id (V3 v a.reverse)⟩)
 |d,i,0,b,H,_,_,_,h,_,_,_=>by omega
 |d,i,k+1,b,H,hI,hi2,hd,hk,hpos,hil,hH=>by
  obtain⟨j,f⟩:=hI;by_cases n:i<a.length-1-i
  ·obtain⟨x,C⟩:∃x,b[i]? =some x:=⟨_,Zg (by omega)⟩;obtain⟨y,D⟩:∃y,b[a.length-1-i]? =some y:=⟨_,Zg (by omega)⟩;have A:a[i]? =some x:=by rw[<-C,f i (by omega),if_neg (by omega)]
   have B:a[a.length-1-i]? =some y:=by rw[<-D,f _ (by omega),if_neg (by omega)]
   have r:=u7 (E:=E) (K:=K) (k:=k) hH C D (z x (Zt A)) (z y (Zt B)) n (by omega);rw[j]at r;have m:id<H.length:=(Zd.mp hH).1;have F:Fu a ((b.set i y).set (a.length-1-i) x) (i+1):=by
    refine⟨by simp[j],fun p t=> ?_⟩;rw[YW,YW];by_cases w:a.length-1-i=p
    ·rw[if_pos w,if_pos (by simp[j];omega),if_pos (by omega),<-A];congr 1;omega
    ·rw[if_neg w];by_cases s:i=p
     ·rw[if_pos s,if_pos (by omega),if_pos (by omega),<-B];congr 1;omega
     ·rw[if_neg s,f p t];by_cases l:p<i\/a.length-i<=p
      ·rw[if_pos l,if_pos (by omega)]
      ·rw[if_neg l,if_neg (by omega)]
   obtain⟨u,g⟩:=xU (E:=E) (K:=K) (id:=id) (v:=v) z I (d-1) (i+1) k _ (H.set id (V3 v ((b.set i y).set (a.length-1-i) x))) F (by omega) (by omega) (by omega) hpos (by omega) (Yi m);refine⟨u,?_⟩;rw[r,show a.length-1-i-1=a.length-1-(i+1)by omega,g,List.set_set]
  ·have G:b=a.reverse:=by
    apply List.ext_getElem?;intro p;by_cases t:p<a.length
    ·rw[f p t,List.getElem?_reverse t];by_cases l:p<i\/a.length-i<=p
     ·rw[if_pos l]
     ·rw[if_neg l];congr 1;omega
    ·rw[Yv (by omega),Yv (by simp;omega)]
   have o:H.set id (V3 v a.reverse)=H:=by
    rw[<-G];obtain⟨w,s⟩:=Zd.1 hH;apply List.ext_getElem (by simp);intro q l J;rw[List.getElem_set];split
    ·rename_i e;subst e;exact s.symm
    ·rfl
   rw[o];apply Exists.intro;rw[Xc];simp only[Xp,Xq,reduceIte,Nat.reduceEqDiff,x110_1,n];rfl
theorem xV {B:Xr}(a:Std B)(H:List Xz):UA B 110 [.one (.p .XJ)] H (.XY []) H:=by
 refine UA.of (a.X6 _ _ rfl) ((a.Xi.and (X0.ge 1)).mono fun E K ⟨d,f⟩=> ?_);obtain⟨k,c⟩:∃k,K=k+1:=⟨K-1,by omega⟩;have e:R6 [.one (.p .XJ)]=some ⟨.one (.p (.int .i64 (.ofNat 0))),[],[],[]⟩:=rfl;have b:Xe .i64 (Int.ofNat 0-Int.ofNat 1)=.negSucc 0:=rfl;simp(decide:=true)only[Xp,Xq,WR,reduceIte,x110,x110_1,e,b];rw[c];simp(decide:=true)only[Xc,Xp,Xq,reduceIte]
abbrev sB (d:DL):Xz:=⟨false,0,1,[[d]],false,48⟩
abbrev BI (n i:Nat):List (Nat×DV):=[(4,.one (.ptr 1 0 0 0)),(5,.one (.fn 108 [.ptr 1 0 0 0])),(13,.one (.own 0 1 0 n)),(14,.one (.p (.int .i64 (.ofNat n)))),(15,.one (.p (.int .i64 (.ofNat i))))]
theorem yQ {E:Xb}{K k i:Nat}(b:E.mode=md){a:List (List PL)}{m:List Nat}{x:PK}{H:List Xz}(h0:H[0]? =some (V3 1 a))(f:H[1]? =some (sB (Qk x)))(g:a[i]? =some (mo m))(s:m.length=8)(y:a.length<1000000)
  (d:∀X,XB 6 (Xl (H++X)) (.ptr 1 0 0 0)=some (.ref [ae x])) (o:E.pure 108 [.agg (mo m),.one (.ref [ae x])]=some (.one (.bool true))):
  ∃J,Xc E K 0 [4,5,13,14,15] x69_1 (k+1) ⟨BI a.length i,H⟩=Xc E K 0 [4,5,13,14,15] x69_1 k ⟨BI a.length (i+1),H++J⟩:=by
 have e:i<a.length:=(Zd.mp g).1;have t:(pc a)[i]? =some (Xm m):=by simp[pc,g,XS]
 have h:Xe .i64 (.ofNat (i+1))=.ofNat (i+1):=wrap_i64 (by omega);have u:(Xm m).take 8=Xm m:=Zb (by rw[Xa];omega);have v:(Xm m).drop 8=[]:=Zj (by rw[Xa];omega);have w:=Xo m;have j:=X1 h0;have n:=X1 f;have r:(pc a).length=a.length:=Wi a;simp only[V3]at j h0;simp only[sB]at n f;have q:XG E .U3 [.one (.fn 108 [.ptr 1 0 0 0]),.agg (Xm m)]=false:=by
  show W1 E 108=false;simp only[W1,b,XW]
 have c:∀X,UY E (Xl (H++X)) [.one (.fn 108 [.ptr 1 0 0 0]),.agg (Xm m)]=some ⟨.one (.p (.bool true)),[],[],[DV.agg (Xm m),.one (.ptr 1 0 0 0)].flatMap (Sa (Xl (H++X)))⟩:=fun X=>by
  show WO E (Xl (H++X)) 108 [.agg (Xm m),.one (.ptr 1 0 0 0)]=_;have e1:E.mode 108=.pure:=by rw[b];rfl
  have e2:Xt (XU (Xl (H++X))) [DV.agg (Xm m),.one (.ptr 1 0 0 0)]=some [.agg (mo m),.one (.ref [ae x])]:=by
   have:=XK 6 (Xl (H++X)) m;simp only[Xt,XU,Wn,this,d]
  have e3:∀l:List Nat,(l.isEmpty||PV.scalar (.one (.bool true)))=true:=fun l=>by rw[Bool.or_eq_true];exact .inr rfl
  simp only[WO,e1,e2,o,e3,cond_true,inj]
 apply Exists.intro;rw[Xc];simp(decide:=true)only[Xp,Xq,reduceIte,Nat.reduceAdd,x69_1,e,t,h,u,w,s,h0,q,c,Xa,XN,Wa,Wf,Zl,Zs];rfl
theorem yS {E:Xb}{K k i:Nat}(d:E.mode=md){a:List (List PL)}{m:List Nat}{x:PK}{H:List Xz}(h0:H[0]? =some (V3 1 a))(f:H[1]? =some (sB (Qk x)))(r:a[i]? =some (mo m))(z:m.length=8)(G:a.length<1000000)
  (o:∀X,XB 6 (Xl (H++X)) (.ptr 1 0 0 0)=some (.ref [ae x])) (u:E.pure 108 [.agg (mo m),.one (.ref [ae x])]=some (.one (.bool false))) (A:x=none):
  ∃J,Xc E K 0 [4,5,13,14,15] x69_1 (k+1) ⟨BI a.length i,H⟩=Xc E K 0 [4,5,13,14,15] x69_1 k ⟨BI a.length (i+1),H.set 1 (sB (.own (H.length+2) 0 0 1))++J⟩/\J[2]? =some (V3 0 [mo m]):=by
 subst A;have q:i<a.length:=(Zd.mp r).1;have B:(pc a)[i]? =some (Xm m):=by simp[pc,r,XS]
 have s:Xe .i64 (.ofNat (i+1))=.ofNat (i+1):=wrap_i64 (by omega);have D:(Xm m).take 8=Xm m:=Zb (by rw[Xa];omega);have F:(Xm m).drop 8=[]:=Zj (by rw[Xa];omega);have w:=Xo m;have t:=X1 h0;have g:=X1 f;have y:(pc a).length=a.length:=Wi a;simp only[V3]at t h0;simp only[sB]at g f;have v:XG E .U3 [.one (.fn 108 [.ptr 1 0 0 0]),.agg (Xm m)]=false:=by
  show W1 E 108=false;simp only[W1,d,XW]
 have j:∀X,UY E (Xl (H++X)) [.one (.fn 108 [.ptr 1 0 0 0]),.agg (Xm m)]=some ⟨.one (.p (.bool false)),[],[],[DV.agg (Xm m),.one (.ptr 1 0 0 0)].flatMap (Sa (Xl (H++X)))⟩:=fun X=>by
  show WO E (Xl (H++X)) 108 [.agg (Xm m),.one (.ptr 1 0 0 0)]=_;have e1:E.mode 108=.pure:=by rw[d];rfl
  have e2:Xt (XU (Xl (H++X))) [DV.agg (Xm m),.one (.ptr 1 0 0 0)]=some [.agg (mo m),.one (.ref [(ae none)])]:=by
   have:=XK 6 (Xl (H++X)) m;simp only[Xt,XU,Wn,this,o]
  have e3:∀l:List Nat,(l.isEmpty||PV.scalar (.one (.bool false)))=true:=fun l=>by rw[Bool.or_eq_true];exact .inr rfl
  simp only[WO,e1,e2,u,e3,cond_true,inj]
 simp only[Qk]at g f;have C:=fun X b=>Ql (H:=H) (Zd.1 f).1 X b
 have h:∀(n:Nat) (c:List DL) (e:List Nat),WK 51 8 64 n [c] e=some ⟨.one (.own n 0 0 1),[⟨false,0,8,[c],false,51⟩],[],e⟩:=fun _ _ _=>rfl
 apply Exists.intro;refine⟨?_,?_⟩
 ·rw[Xc];simp(decide:=true)only[Xp,Xq,reduceIte,Nat.reduceAdd,x69_1,q,B,s,D,w,z,g,h0,v,j,Xa,XN,Vh,Wa,Wf,Zq,Zl,Zs,C,h];rfl
 ·simp only[Z9,Yq,V3,pc,XS,Zw,ZT]
theorem yR {E:Xb}{K k i:Nat}(h:E.mode=md){c:List (List PL)}{m:List Nat}{x:PK}{H:List Xz}(h0:H[0]? =some (V3 1 c))(f:H[1]? =some (sB (Qk x)))(u:c[i]? =some (mo m))(L:m.length=8)(Z:c.length<1000000)
  (q:∀X,XB 6 (Xl (H++X)) (.ptr 1 0 0 0)=some (.ref [ae x])) (F:E.pure 108 [.agg (mo m),.one (.ref [ae x])]=some (.one (.bool false))) {id v:Nat} {a:List (List PL)} (N:x=some (id,v,a)) (d:H[id]? =some (V3 v a)) (O:2<=id) (M:a.length<1000000):
  ∃J,Xc E K 0 [4,5,13,14,15] x69_1 (k+1) ⟨BI c.length i,H⟩=Xc E K 0 [4,5,13,14,15] x69_1 k ⟨BI c.length (i+1),(H.set id (V3 (v+1) (a++[mo m]))).set 1 (sB (.own id (v+1) 0 (a++[mo m]).length))++J⟩:=by
 subst N;have r:i<c.length:=(Zd.mp u).1;have P:(pc c)[i]? =some (Xm m):=by simp[pc,u,XS]
 have A:Xe .i64 (.ofNat (i+1))=.ofNat (i+1):=wrap_i64 (by omega);have R:(Xm m).take 8=Xm m:=Zb (by rw[Xa];omega);have Y:(Xm m).drop 8=[]:=Zj (by rw[Xa];omega);have w:=Xo m;have D:=X1 h0;have j:=X1 f;have I:(pc c).length=c.length:=Wi c;simp only[V3]at D h0;simp only[sB]at j f;have G:XG E .U3 [.one (.fn 108 [.ptr 1 0 0 0]),.agg (Xm m)]=false:=by
  show W1 E 108=false;simp only[W1,h,XW]
 have o:∀X,UY E (Xl (H++X)) [.one (.fn 108 [.ptr 1 0 0 0]),.agg (Xm m)]=some ⟨.one (.p (.bool false)),[],[],[DV.agg (Xm m),.one (.ptr 1 0 0 0)].flatMap (Sa (Xl (H++X)))⟩:=fun X=>by
  show WO E (Xl (H++X)) 108 [.agg (Xm m),.one (.ptr 1 0 0 0)]=_;have e1:E.mode 108=.pure:=by rw[h];rfl
  have e2:Xt (XU (Xl (H++X))) [DV.agg (Xm m),.one (.ptr 1 0 0 0)]=some [.agg (mo m),.one (.ref [(ae (some (id,v,a)))])]:=by
   have:=XK 6 (Xl (H++X)) m;simp only[Xt,XU,Wn,this,q]
  have e3:∀l:List Nat,(l.isEmpty||PV.scalar (.one (.bool false)))=true:=fun l=>by rw[Bool.or_eq_true];exact .inr rfl
  simp only[WO,e1,e2,F,e3,cond_true,inj]
 simp only[Qk]at j f;have g:id<H.length:=(Zd.1 d).1;have Q:=fun X b=>Ql (H:=H) g X b
 have t:=fun X b y=>Ql (H:=H.set id b) (i:=1) (by rw[ZZ];exact(Zd.1 f).1) X y
 have n:∀(X:List Xz) b,(H.set id b++X)[1]? =some ⟨false,0,1,[[.own id v 0 a.length]],false,48⟩:=fun X b=>X1 (by rw[ZB (by omega)];exact f) X
 have e:=X1 d;have B:(a.length+1)*64<=lim:=by unfold lim;omega
 have C:a.length+1<=9223372036854775807:=by omega
 have S:(id=1)=False:=by simp;omega
 have z:(id=0)=False:=by simp;omega
 have T:∀x,(H.length+x<=id)=False:=fun x=>by simp;omega
 have c3:(H.length<=id)=False:=by simp;omega
 have U:∀x,(id=H.length+x)=False:=fun x=>by simp;omega
 have V:∀x,(H.length+x=id)=False:=fun x=>by simp;omega
 have W:(1=id)=False:=by simp;omega
 have s:pc a++[Xm m]=pc (a++[mo m]):=by simp[pc,XS]
 simp only[V3]at e d;apply Exists.intro;rw[Xc];simp(decide:=true)only[Xp,Xq,reduceIte,Nat.reduceAdd,x69_1,r,P,A,R,w,L,j,h0,G,o,Xa,XN,Vh,Wa,Wf,Zq,Zl,Zs,Q,t,n,e,B,C,Wi,s,ZZ];rfl
def S7:List (List Nat)->List (List Nat)->List (List Nat)
 |[],acc=>acc
 |m::l,acc=>if(acc.any fun d=>X9 d m)=true then S7 l acc else S7 l (acc++[m])
def pS:List (List Nat)->PL
 |[]=>.XJ
 |m::l=>.Xv ((m::l).map mo)
theorem yB (l:List (List Nat)):cw (pS l) l:=by
 cases l with
 |nil=>exact .nil
 |cons m l=>exact .Xv
inductive rS (E:Xb):List (List Nat)->List (List Nat)->List (List Nat)->Prop
 |nil (acc:List (List Nat)):rS E [] acc acc
 |skip {m:List Nat} {l acc r:List (List Nat)} (h:E.pure 108 [.agg (mo m),.one (.ref [pS acc])]=some (.one (.bool true))) (k:rS E l acc r):rS E (m::l) acc r
 |new {m:List Nat} {l acc r:List (List Nat)} (h:E.pure 108 [.agg (mo m),.one (.ref [pS acc])]=some (.one (.bool false))) (k:rS E l (acc++[m]) r):rS E (m::l) acc r
theorem fD {B:Xr}(f:Std B):∀(l a:List (List Nat)),(∀m∈l,m.length=8)->(∀m∈a,m.length=8)->l.length+a.length<1000000->X0 B fun E _=>rS E l a (S7 l a)
 |[],a,_,_,_=>X0.of fun _ _=>.nil a
 |m::l,a,g,ha,hn=>by
  have i:=g m (Ze ..);have c:∀m∈l,m.length=8:=fun x b=>g x (Zc _ b)
  simp only[Zi]at hn;have e:=yT f i (yB a) (by omega) ha;unfold S7;by_cases h:(a.any fun d=>X9 d m)=true
  ·rw[if_pos h];rw[h]at e;exact(e.Xi.and (fD f l a c ha (by omega))).mono fun E K ⟨e1,e2⟩=>.skip e1 e2
  ·rw[if_neg h];rw[Bool.not_eq_true]at h;rw[h]at e;refine(e.Xi.and (fD f l (a++[m]) c (fun x b=> ?_) (by simp;omega))).mono fun E K ⟨e1,e2⟩=>.new e1 e2
   rcases ZV.1 b with b|b
   ·exact ha x b
   ·rw[Yu.1 b];exact i
structure Fy (ss:List (List PL))(H:List Xz)(x:PK)(acc:List (List Nat)):Prop where
 b0:H[0]? =some (V3 1 ss)
 b1:H[1]? =some (sB (Qk x))
 px:ae x=pS acc
 own:∀id v es,x=some (id,v,es)->H[id]? =some (V3 v es)/\2<=id/\es=acc.map mo
theorem tJ {H:List Xz}{x:PK}(h:∀id v a,x=some (id,v,a)->H[id]? =some (V3 v a))(n:Nat):XB (n+1) (Xl H) (Qk x)=some (ae x):=by
 cases x with
 |none=>rfl
 |some q=>
  obtain⟨id,v,a⟩:=q;have b:=h id v a rfl;have f:=Ui a (Zh _);have d:=Ux n (Xl H) a;have e:Xl H id=some (V3 v a):=b;have c:(Nat.beq v v&& !false&&Nat.ble (0+a.length) (pc a).length)=true:=by simp[Wi]
  simp only[Qk,XB,e,c,cond_true,Ye,f,d,ae]
theorem Fy.pT {c:List (List PL)}{H:List Xz}{x:PK}{a:List (List Nat)}(h:Fy c H x a)(X:List Xz):XB 6 (Xl (H++X)) (.ptr 1 0 0 0)=some (.ref [ae x]):=by
 have e:Xl (H++X) 1=some (sB (Qk x)):=X1 h.b1 X;have f:=tJ (H:=H++X) (x:=x) (fun id v b e=>X1 (h.own id v b e).1 X) 4;simp only[XB,e,sB,YG,Bool.not_false,YT,cond_true,Yq,Ye,Xt,f]
theorem DH {E:Xb}{K:Nat}(f:E.mode=md){ss:List (List PL)}(C:ss.length<1000000):∀{rest b r:List (List Nat)},rS E rest b r->∀(i k:Nat) (x:PK) (H:List Xz),ss.drop i=rest.map mo->(∀m∈rest,m.length=8)->Fy ss H x b->i+rest.length=ss.length->rest.length<k->b.length+rest.length<1000000->
  ∃d G V,Xc E K 0 [4,5,13,14,15] x69_1 k ⟨BI ss.length i,H⟩=some (.exit 0,⟨d,G⟩)/\Xh d 4=some (.one (.ptr 1 0 0 0))/\Fy ss G V r:=by
 intro rest b r h;induction h with
 |nil b=>
  intro i k x H _ _ c n y _;obtain⟨k,rfl⟩:∃t,k=t+1:=⟨k-1,by omega⟩;simp only[Zu,Z3]at n;subst n;have :∃d,Xc E K 0 [4,5,13,14,15] x69_1 (k+1) ⟨BI ss.length ss.length,H⟩=some (.exit 0,⟨d,H⟩)/\Xh d 4=some (.one (.ptr 1 0 0 0)):=by
   apply VM
   ·rw[Xc];simp only[Xp,Xq,reduceIte,Nat.reduceEqDiff,x69_1,Zv];rfl
   ·simp only[Xp,reduceIte,Nat.reduceEqDiff]
  obtain⟨d,P,Q⟩:=this;exact⟨d,H,x,P,Q,c⟩
 |@skip m l b r g T z=>
  intro i k x H B j c n y D;obtain⟨k,rfl⟩:∃t,k=t+1:=⟨k-1,by omega⟩;simp only[Zi]at n y D;obtain⟨w,u⟩:=Xf (show ss.drop i=mo m::l.map mo by simpa using B);rw[<-c.px]at g;obtain⟨J,e⟩:=yQ (K:=K) (k:=k) f c.b0 c.b1 w (j m (Ze ..)) C c.pT g;have F:Fy ss (H++J) x b:=⟨X1 c.b0 J,X1 c.b1 J,c.px,fun id v o e=>⟨X1 (c.own id v o e).1 J,(c.own id v o e).2⟩⟩;rw[e];exact z (i+1) k x (H++J) u (fun x s=>j x (Zc _ s)) F (by omega) (by omega) (by omega)
 |@new m l b r g T z=>
  intro i k x H B j c n y D;obtain⟨k,rfl⟩:∃t,k=t+1:=⟨k-1,by omega⟩;simp only[Zi]at n y D;obtain⟨w,u⟩:=Xf (show ss.drop i=mo m::l.map mo by simpa using B);rw[<-c.px]at g;have I:=j m (Ze ..);have A:1<H.length:=(Zd.1 c.b1).1;cases x with
  |none=>
   have S:b=[]:=by
    have:=c.px;cases b with
    |nil=>rfl
    |cons a l=>cases this
   subst S;obtain⟨J,e,R⟩:=yS (K:=K) (k:=k) f c.b0 c.b1 w I C c.pT g rfl;rw[e];refine z (i+1) k (some (H.length+2,0,[mo m])) _ u (fun x s=>j x (Zc _ s)) ⟨?_,?_,rfl,fun id v o e=> ?_⟩ (by omega) (by omega) (by simp;omega)
   ·exact X1 (by rw[ZB (by omega)];exact c.b0) J
   ·exact X1 (by rw[Yi A];rfl) J
   ·simp only[Za,Zn]at e;obtain⟨rfl,rfl,rfl⟩:=e;refine⟨?_,by omega,rfl⟩;rw[ZI (by rw[ZZ];omega),ZZ,YD];exact R
  |some q=>
   obtain⟨id,v,o⟩:=q;obtain⟨L,M,rfl⟩:=c.own id v o rfl;have p:id<H.length:=(Zd.1 L).1;obtain⟨J,e⟩:=yR (K:=K) (k:=k) f c.b0 c.b1 w I C c.pT g rfl L M (by simp;omega);have N:ae (some (id,v+1,b.map mo++[mo m]))=pS (b++[m]):=by
    have :pS (b++[m])=.Xv ((b++[m]).map mo):=by cases b<;>rfl
    rw[this];simp[ae]
   rw[e];refine z (i+1) k (some (id,v+1,b.map mo++[mo m])) _ u (fun x s=>j x (Zc _ s)) ⟨?_,?_,N,fun U W O e=> ?_⟩ (by omega) (by omega) (by simp;omega)
   ·exact X1 (by rw[ZB (by omega),ZB (by omega)];exact c.b0) J
   ·exact X1 (by rw[Yi (by rw[ZZ];omega)];rfl) J
   ·simp only[Za,Zn]at e;obtain⟨rfl,rfl,rfl⟩:=e;refine⟨X1 (by rw[ZB (by omega),Yi p]) J,M,by simp⟩
theorem X0.B1 {B:Xr}{f:Nat}{b:W4}(e:B.X f=some b){p:List DV->List Xz->DV×List Xz->Prop}(h:X0 B fun E K=>∀a H r,p a H r->VU E K b a H=some r):X0 B fun E _=>∀a H r,p a H r->E.heap f a H=some r:=by
 obtain⟨N,c⟩:=h;refine⟨N+1,fun K n i j=> ?_⟩;obtain⟨n,rfl⟩:∃g,n=g+1:=⟨n-1,by omega⟩;intro a H r d;show(match B.X f with
  |some b=>VU (B.E K n) K b a H
  |none=>(B.E K n).heap f a H)=some r
 rw[e];exact c K n (by omega) (by omega) a H r d
theorem Bh {B:Xr}(e:Std B){L:Nat}(m:L<1000000):X0 B fun E _=>∀a H r,(∃id v b,a=[.one (.own id v 0 b.length)]/\H[id]? =some (V3 v b)/\(∀c∈b,c.length=8)/\b.length<=L/\0<b.length/\r=(.XY [],H.set id (V3 v b.reverse)))->
  E.heap 110 a H=some r:=by
 refine X0.B1 (e.X6 110 _ rfl) ((e.Xi.and (X0.ge (L+1))).mono fun E K ⟨j,l⟩=> ?_);rintro a H r ⟨id,v,b,rfl,i,h,n,d,rfl⟩;obtain⟨k,g⟩:=xU (E:=E) (K:=K) (id:=id) (v:=v) h (by omega) b.length 0 K b H ⟨rfl,fun p o=>by rw[if_neg (by omega)]⟩ (by omega) (by omega) (by omega) d (by omega) i;have f:Xe .i64 (Int.ofNat b.length-Int.ofNat 1)=.ofNat (b.length-1):=Wh (by omega) (by omega);rw[Nat.sub_zero]at g;simp(decide:=true)only[Xp,Xq,WR,reduceIte,x110,f,g]
theorem lg:∀(l:List (List Nat)) {a:List (List Nat)},a≠[]->S7 l a≠[]
 |[],_,h=>h
 |m::l,a,h=>by
  unfold S7;split
  ·exact lg l h
  ·exact lg l (by simp)
theorem ar:∀(l a:List (List Nat)),(S7 l a).length<=l.length+a.length
 |[],a=>by simp[S7]
 |m::l,a=>by
  unfold S7;split
  ·have:=ar l a;simp only[Zi];omega
  ·have:=ar l (a++[m]);simp only[Zl,Zi,Zu]at this⊢;omega
theorem P9:∀(l a:List (List Nat)),∀x∈S7 l a,x∈l\/x∈a
 |[],a,x,h=>.inr h
 |m::l,a,x,h=>by
  unfold S7 at h;split at h
  ·exact(P9 l a x h).imp (Zc _) id
  ·rcases P9 l (a++[m]) x h with h|h
   ·exact .inl (Zc _ h)
   ·rcases ZV.1 h with h|h
    ·exact .inr h
    ·rw[Yu.1 h];exact .inl (Ze ..)
theorem nT {B:Xr}(I:wM B){b:List (List Nat)}(D:∀m∈b,XL m)(hl:b.length<60000):Xs B 69 [.one (pS b)] (.one (pS (S7 (Vz b) []).reverse)):=by
 have f:=I.toStd;have u:∀i:Nat,Uj 108 [.one (.ptr i 0 0 0)]=some ⟨.one (.fn 108 [.ptr i 0 0 0]),[],[],[]⟩:=fun _=>rfl
 cases o:b with
 |nil=>
  have G:=lQ f [];have s:=mN I (H:=[]);have h3:=xV f [⟨false,0,1,[[.p .XJ]],false,48⟩];refine Xs.of (f.X6 _ _ rfl) ((G.Xi.and (s.Xi.and (h3.Xi.and (f.Xi.and (X0.ge 1))))).mono fun E K ⟨e1,e2,e3,j,hK⟩=> ?_);obtain⟨k,rfl⟩:∃k,K=k+1:=⟨K-1,by omega⟩;have hn:R6 [.one (.p .XJ)]=some ⟨.one (.p (.int .i64 (.ofNat 0))),[],[],[]⟩:=rfl;simp(decide:=true)only[Xp,Xq,WR,reduceIte,x69,x69_1,Xc,pS,Vz,S7,List.reverse_nil,j,XW,e1,e2,e3,hn,u]
 |cons m0 mt=>
  rw[<-o];have X:0<b.length:=by rw[o];simp
  have g:∀m∈Vz b,m.length=8:=fun m e=>(D m ((Ve b).mem_iff.1 e)).1
  have d:(Vz b).length=b.length:=(Ve b).length_eq;have O:∀c∈b.map mo,c.length=8:=fun c t=>by
   obtain⟨m,e,rfl⟩:=ZH.1 t;rw[Xy];exact(D m e).1
  have M:kl (b.map mo):=fun c t=>by
   obtain⟨m,e,rfl⟩:=ZH.1 t;exact(OU (D m e)).1
  have A:Q5 (b.map mo)=(Vz b).map mo:=by
   unfold Q5;rw[List.map_map];congr 1;have :b.map (O5∘mo)=b.map id:=List.map_congr_left fun m e=>(OU (D m e)).2
   rw[this,List.map_id]
  have G:=pk f O (by rw[Zy];omega);have s:=qc I (H:=[V3 1 (b.map mo)]) (i:=0) (v:=1) (es:=b.map mo) rfl M (by rw[Zy];exact hl);rw[A]at s;have P:pS b=.Xv (b.map mo):=by rw[o];rfl
  obtain⟨a0,a1,R⟩:∃a l,Vz b=a::l:=by
   cases h:Vz b with
   |nil=>rw[h]at d;simp at d;omega
   |cons a l=>exact⟨a,l,rfl⟩
  have n:S7 (Vz b) []≠[]:=by
   rw[R];unfold S7;rw[if_neg (by simp)];exact lg _ (by simp)
  have y:(S7 (Vz b) []).length<=b.length:=by have:=ar (Vz b) [];rw[d]at this;simpa using this
  have w:∀m∈S7 (Vz b) [],m.length=8:=fun m e=>(P9 _ _ m e).elim (g m) (fun h=>by cases h)
  have z:∀(l:List (List Nat)),l≠[]->pS l=.Xv (l.map mo):=fun l h=>by cases l with
   |nil=>exact absurd rfl h
   |cons a l=>rfl
  have J:=(fD f (Vz b) [] g (fun _ h=>by cases h) (by rw[d];simp;omega)).and ((Bh f (L:=b.length) (by omega)).and (G.Xi.and (s.Xi.and (f.Xi.and (X0.ge (b.length+1))))));generalize S7 (Vz b) []=r at n y w J;generalize a2:Vz b=ss at J d g s A;refine Xs.of (f.X6 _ _ rfl) (J.mono fun E K ⟨e0,e3,e1,e2,j,hK⟩=> ?_);rw[P,z r.reverse (by simpa using n)];obtain⟨T',F,x',Z,k2,S⟩:=DH (K:=K) j (ss:=ss.map mo) (by rw[Zy];omega) e0 0 K none [V3 1 (ss.map mo),sB (.p .XJ)] (by simp) g ⟨rfl,rfl,rfl,fun _ _ _ h=>by cases h⟩ (by simp) (by omega) (by simp;omega);cases x' with
  |none=>
   have:=S.px;rw[z r n]at this;cases this
  |some q=>
   obtain⟨id,v,W⟩:=q;obtain⟨o1,o2,rfl⟩:=S.own id v W rfl;have Q:0<r.length:=List.length_pos_iff.2 n;have N:∀c∈r.map mo,c.length=8:=fun c t=>by
    obtain⟨m,e,rfl⟩:=ZH.1 t;rw[Xy];exact w m e
   have V:=e3 [.one (.own id v 0 (r.map mo).length)] F _ ⟨id,v,r.map mo,rfl,o1,N,by rw[Zy];exact y,by rw[Zy];exact Q,rfl⟩;have C:=S.b1;simp only[Qk,sB]at C;have T:(F.set id (V3 v (r.map mo).reverse))[1]? =some ⟨false,0,1,[[.own id v 0 (r.map mo).length]],false,48⟩:=by
    rw[ZB (by omega)];exact C
   have U:(F.set id (V3 v (r.map mo).reverse))[id]? =some (V3 v (r.map mo).reverse):=Yi (Zd.1 o1).1;have Y:(pc (r.map mo).reverse).take (r.map mo).length=pc (r.map mo).reverse:=Zb (by rw[Wi,List.length_reverse];exact Zh _);have hf:=fun h=>Ux 5 h (r.map mo).reverse
   have hp:(r.reverse).map mo=(r.map mo).reverse:=by rw[List.map_reverse]
   rw[hp];simp only[BI,V3,sB,Zy,d]at Z U T C e1 e2 V Y⊢;have x:(r.map mo).length=r.length:=Zy ..;generalize r.map mo=rc at *;simp(decide:=true)only[x,Xp,Xq,WR,reduceIte,Nat.reduceAdd,x69,j,XW,u,e1,e2,Z,k2,C,T,U,V,Y,hf,Wi,List.length_reverse,Zh]
theorem cg:∀(m:List Nat),X9 m m=true
 |[]=>rfl
 |a::m=>by simp[X9,cg m]
theorem NH:∀{a b c:List Nat},a.length=b.length->b.length=c.length->X9 a b=true->X9 b c=true->X9 a c=true
 |[],_,_,_,_,_,_=>by simp[X9]
 |x::a,[],_,h,_,_,_=>by simp at h
 |x::a,y::b,[],_,h,_,_=>by simp at h
 |x::a,y::b,z::c,h1,h2,h3,h4=>by
  simp only[X9,Zp,decide_eq_true_eq]at h3 h4⊢;exact⟨by omega,NH (by simpa using h1) (by simpa using h2) h3.2 h4.2⟩
theorem Nh:∀{a b:List Nat},a.length=b.length->X9 a b=true->X9 b a=true->a=b
 |[],[],_,_,_=>rfl
 |[],_::_,h,_,_=>by simp at h
 |_::_,[],h,_,_=>by simp at h
 |x::a,y::b,h,h1,h2=>by
  simp only[X9,Zp,decide_eq_true_eq]at h1 h2;rw[Nh (by simpa using h) h1.2 h2.2,show x=y by omega]
theorem tX:∀{d m:List Nat},X9 d m=true->¬Wj m d=.negSucc 0
 |[],m,_,h=>by cases m<;>cases h
 |_::_,[],_,h=>by cases h
 |x::d,y::m,h,k=>by
  simp only[X9,Zp,decide_eq_true_eq]at h;unfold Wj at k;rw[if_neg (by omega)]at k;split at k
  ·cases k
  ·exact tX h.2 k
abbrev AB (l:List (List Nat)):Prop:=l.Pairwise fun x y=>Wj y x=.ofNat 1
theorem fC:∀{l acc:List (List Nat)},(∀m∈l,m.length=8)->(∀m∈acc,m.length=8)->l.Pairwise (fun x y=>¬Wj y x=.negSucc 0)->AB acc->(∀a∈acc,∀m∈l,¬Wj m a=.negSucc 0)->(∀a∈acc,∀b∈acc,X9 a b=true->a=b)->
  AB (S7 l acc)/\(∀a∈S7 l acc,∀b∈S7 l acc,X9 a b=true->a=b)/\(∀m,m∈l\/m∈acc->∃d∈S7 l acc,X9 d m=true)
 |[],acc,_,_,_,h1,_,h2=>⟨h1,h2,fun m w=>w.elim (fun h=>by cases h) fun h=>⟨m,h,cg m⟩⟩
 |m::l,acc,C,f,hs,h1,hle,h2=>by
  obtain⟨E,D⟩:=Zr.1 hs;have o:=C m (Ze ..);have n:∀x∈l,x.length=8:=fun x c=>C x (Zc _ c)
  unfold S7;split
  ·rename_i h;obtain⟨z,A,p⟩:=fC n f D h1 (fun a f m w=>hle a f m (Zc _ w)) h2;refine⟨z,A,fun x c=> ?_⟩;rcases c with c|c
   ·rcases Zk.1 c with rfl|c
    ·obtain⟨d,j,t⟩:=List.any_eq_true.1 h;obtain⟨e,B,v⟩:=p d (.inr j);have q:=f d j;have u:e.length=8:=(P9 _ _ e B).elim (n e) (f e);exact⟨e,B,NH (u.trans q.symm) (q.trans o.symm) v t⟩
    ·exact p x (.inl c)
   ·exact p x (.inr c)
  ·rename_i h;have s:∀a∈acc,X9 a m=false:=fun a g=>by
    cases i:X9 a m with
    |false=>rfl
    |true=>exact absurd (List.any_eq_true.2 ⟨a,g,i⟩) h
   have r:∀a∈acc,Wj m a=.ofNat 1:=fun a g=>by
    rcases WA m a with k|k|k
    ·exact k
    ·exact absurd k (hle a g m (Ze ..))
    ·have:=VQ (o.trans (f a g).symm) k;subst this;exact absurd (cg m) (by rw[s m g];decide)
   have g:∀x∈acc++[m],x.length=8:=fun x c=>by
    rcases ZV.1 c with c|c
    ·exact f x c
    ·rw[Yu.1 c];exact o
   obtain⟨z,A,p⟩:=fC (l:=l) (acc:=acc++[m]) n g D (List.pairwise_append.2 ⟨h1,List.pairwise_singleton ..,fun a f x c=>by rw[Yu.1 c];exact r a f⟩)
    (fun a f x c=>by
     rcases ZV.1 f with f|f
     ·exact hle a f x (Zc _ c)
     ·rw[Yu.1 f];exact E x c)
    (fun a f b i j=>by
     rcases ZV.1 f with f|f<;>rcases ZV.1 i with i|i
     ·exact h2 a f b i j
     ·rw[Yu.1 i,s a f]at j;cases j
     ·rw[Yu.1 f]at j;have k:=(Sy m b).2 (r b i);exact absurd k (tX j)
     ·rw[Yu.1 f,Yu.1 i])
   refine⟨z,A,fun x c=> ?_⟩;rcases c with c|c
   ·rcases Zk.1 c with rfl|c
    ·exact p x (.inr (List.mem_append_right _ (List.mem_singleton_self ..)))
    ·exact p x (.inl c)
   ·exact p x (.inr (List.mem_append_left _ c))
theorem tF:∀{l k:List (List Nat)},(∀m∈l,m.length=8)->(∀m∈k,m.length=8)->AB l->AB k->(∀x,x∈l↔x∈k)->l=k
 |[],[],_,_,_,_,_=>rfl
 |[],b::k,_,_,_,_,h=>by have:=(h b).2 (Ze ..);cases this
 |a::l,[],_,_,_,_,h=>by have:=(h a).1 (Ze ..);cases this
 |a::l,b::k,hl,hk,h1,h2,h=>by
  obtain⟨i,n⟩:=Zr.1 h1;obtain⟨j,o⟩:=Zr.1 h2;have g:∀m:List Nat,¬Wj m m=.ofNat 1:=fun m e=>by rw[U0]at e;cases e
  have f:∀x y:List Nat,Wj x y=.ofNat 1->¬Wj y x=.ofNat 1:=fun x y e d=>by
   have:=(Sy x y).2 e;rw[this]at d;cases d
  have e:a=b:=by
   rcases Zk.1 ((h a).1 (Ze ..))with e|e
   ·exact e
   ·rcases Zk.1 ((h b).2 (Ze ..))with d|d
    ·exact d.symm
    ·exact absurd (i b d) (f _ _ (j a e))
  subst e;congr 1;refine tF (fun x c=>hl x (Zc _ c)) (fun x c=>hk x (Zc _ c)) n o fun x=>⟨fun c=> ?_,fun c=> ?_⟩
  ·rcases Zk.1 ((h x).1 (Zc _ c))with e|e
   ·subst e;exact absurd (i x c) (g x)
   ·exact e
  ·rcases Zk.1 ((h x).2 (Zc _ c))with e|e
   ·subst e;exact absurd (j x c) (g x)
   ·exact e
def P8 (ms:List (List Nat)):List (List Nat):=S7 (Vz ms) []
theorem jv {c:List (List Nat)}(g:∀m∈c,m.length=8):AB (P8 c)/\(∀a∈P8 c,∀b∈P8 c,X9 a b=true->a=b)/\(∀m∈c,∃d∈P8 c,X9 d m=true)/\(∀m∈P8 c,m∈c):=by
 have f:∀m∈Vz c,m.length=8:=fun m e=>g m ((Ve c).mem_iff.1 e)
 obtain⟨i,j,k⟩:=fC (acc:=[]) f (fun _ h=>by cases h) (Qj g) List.Pairwise.nil (fun _ h=>by cases h) (fun _ h=>by cases h);refine⟨i,j,fun m e=>k m (.inl ((Ve c).mem_iff.2 e)),fun m e=> ?_⟩;rcases P9 _ _ m e with h|h
 ·exact(Ve c).mem_iff.1 h
 ·cases h
theorem fo {B:Xr}(a:Std B){b lo:PL}(e:Sl b []):Xs B 58 [.one b,.one lo] (.XY [.agg (.bool false::.XJ::.bool false::.XJ::mo To),.one (.bool false)]):=by
 have c:=e.len;refine Xs.of (a.X6 _ _ rfl) (a.Xi.mono fun E K d=> ?_);simp(decide:=true)only[Xp,Xq,reduceIte,Nat.reduceAdd,x58,c];rfl
abbrev BW (lo L:PL)(d:DL)(n i:Nat):List (Nat×DV):=[(1,.one (.p lo)),(5,.one d),(10,.one (.p L)),(11,.one (.p (.int .i64 (.ofNat n)))),(12,.one (.p (.int .i64 (.ofNat i))))]
theorem BT {E:Xb}{K k i:Nat}(c:E.mode=md){e L p:PL}{a:List PL}(o:Sl L (Xu a))(f:a[i]? =some p)(q:a.length<1000000)(j:E.pure 58 [.one p,.one e]=some (.XY [.agg (.bool false::.XJ::.bool false::.XJ::mo To),.one (.bool false)]))(d:DL)(H:List Xz):
  ∃J,Xc E K 0 [1,5,10,11,12] x22_1 (k+1) ⟨BW e L d a.length i,H⟩=Xc E K 0 [1,5,10,11,12] x22_1 k ⟨BW e L d a.length (i+1),H++J⟩:=by
 have b:i<a.length:=(Zd.mp f).1;have m:=fun(l:HF) (n:IntKind)=>o.idx (h:=l) (k:=n) (sz:=1) (XI f) rfl
 have g:Xe .i64 (.ofNat (i+1))=.ofNat (i+1):=wrap_i64 (by omega);apply Exists.intro;rw[Xc];simp(decide:=true)only[Xp,Xq,WR,reduceIte,Nat.reduceAdd,x22_1,c,XW,b,m,j,g,Wa,Wf,Zl,Zs,XS,Xa,To];rfl
theorem BV {E:Xb}{K k i:Nat}(l:E.mode=md){o L p:PL}{d:List PL}(y:Sl L (Xu d))(q:d[i]? =some p)(D:d.length<1000000){a b c e:PL}{m:List Nat}(u:m.length=8)(s:E.pure 58 [.one p,.one o]=some (.XY [.agg (a::b::c::e::mo m),.one (.bool true)]))(H:List Xz):
  ∃J,Xc E K 0 [1,5,10,11,12] x22_1 (k+1) ⟨BW o L (.p .XJ) d.length i,H⟩=Xc E K 0 [1,5,10,11,12] x22_1 k ⟨BW o L (.own (H.length+2) 0 0 1) d.length (i+1),H++J⟩/\J[2]? =some (V3 0 [mo m]):=by
 have j:i<d.length:=(Zd.mp q).1;have v:=fun(t:HF) (x:IntKind)=>y.idx (h:=t) (k:=x) (sz:=1) (XI q) rfl
 have r:Xe .i64 (.ofNat (i+1))=.ofNat (i+1):=wrap_i64 (by omega);have z:(Xm m).take 8=Xm m:=Zb (by rw[Xa];omega);have A:(Xm m).drop 8=[]:=Zj (by rw[Xa];omega);have w:=Xo m;have B:1*64<=lim:=by unfold lim;omega
 have C:1<=9223372036854775807:=by omega
 have g:∀(n:Nat) (c:List DL) (f:List Nat),WK 51 8 64 n [c] f=some ⟨.one (.own n 0 0 1),[⟨false,0,8,[c],false,51⟩],[],f⟩:=fun _ _ _=>rfl
 apply VM
 ·rw[Xc];simp(decide:=true)only[Xp,Xq,WR,reduceIte,Nat.reduceAdd,x22_1,l,XW,j,v,s,r,Vh,Wa,Wf,Zq,Zl,Zs,z,u,XS,Xa,g];rfl
 ·simp only[Z9,Yq,V3,pc,XS,Zw,ZT]
theorem BU {E:Xb}{K k i:Nat}(n:E.mode=md){o L p:PL}{f:List PL}(F:Sl L (Xu f))(r:f[i]? =some p)(S:f.length<1000000){a b c e:PL}{m:List Nat}(A:m.length=8)(y:E.pure 58 [.one p,.one o]=some (.XY [.agg (a::b::c::e::mo m),.one (.bool true)])){id v:Nat}{rs:List (List PL)}(B:rs.length<1000000)(H:List Xz)(d:H[id]? =some (V3 v rs)):
  ∃J,Xc E K 0 [1,5,10,11,12] x22_1 (k+1) ⟨BW o L (.own id v 0 rs.length) f.length i,H⟩=Xc E K 0 [1,5,10,11,12] x22_1 k ⟨BW o L (.own id (v+1) 0 (rs++[mo m]).length) f.length (i+1),H.set id (V3 (v+1) (rs++[mo m]))++J⟩:=by
 have l:i<f.length:=(Zd.mp r).1;have C:=fun(z:HF) (D:IntKind)=>F.idx (h:=z) (k:=D) (sz:=1) (XI r) rfl
 have s:Xe .i64 (.ofNat (i+1))=.ofNat (i+1):=wrap_i64 (by omega);have I:(Xm m).take 8=Xm m:=Zb (by rw[Xa];omega);have R:(Xm m).drop 8=[]:=Zj (by rw[Xa];omega);have w:=Xo m;have j:id<H.length:=(Zd.1 d).1;have G:=fun X b=>Ql (H:=H) j X b
 have g:=X1 d;have t:(rs.length+1)*64<=lim:=by unfold lim;omega
 have u:rs.length+1<=9223372036854775807:=by omega
 have M:∀x,(H.length+x<=id)=False:=fun x=>by simp;omega
 have c3:(H.length<=id)=False:=by simp;omega
 have N:∀x,(id=H.length+x)=False:=fun x=>by simp;omega
 have O:∀x,(H.length+x=id)=False:=fun x=>by simp;omega
 have P:(H.length=id)=False:=by simp;omega
 have Q:(id=H.length)=False:=by simp;omega
 have q:pc rs++[Xm m]=pc (rs++[mo m]):=by simp[pc,XS]
 simp only[V3]at g d;apply Exists.intro;rw[Xc];simp(decide:=true)only[Xp,Xq,WR,reduceIte,Nat.reduceAdd,x22_1,n,XW,l,C,y,s,Vh,Wa,Wf,Zq,Zl,Zs,I,A,XS,Xa,G,g,t,u,Wi,q,ZZ];rfl
def aw (o:List (List Int)):List (List Qm)->List (List Nat)
 |[]=>[]
 |f::fs=>match Wl o f with
  |none=>aw o fs
  |some s=>s.2::aw o fs
inductive Em (E:Xb)(lo:PL):List PL->List (List Nat)->Prop
 |nil:Em E lo [] []
 |skip {p:PL} {ls:List PL} {ms:List (List Nat)} (hc:E.pure 58 [.one p,.one lo]=some (.XY [.agg (.bool false::.XJ::.bool false::.XJ::mo To),.one (.bool false)])) (h:Em E lo ls ms):Em E lo (p::ls) ms
 |new {p a b c e:PL} {m:List Nat} {ls:List PL} {ms:List (List Nat)} (hm:m.length=8) (hc:E.pure 58 [.one p,.one lo]=some (.XY [.agg (a::b::c::e::mo m),.one (.bool true)])) (h:Em E lo ls ms):Em E lo (p::ls) (m::ms)
theorem ln {B:Xr}(i:Std B){lo:PL}{o:List (List Int)}(r:S6 lo o)(q:VE o)(d:o.length<1000000):∀{k:List PL} {b:List (List Qm)},T6 k b->(∀f∈b,f.length<100000)->(X0 B fun E _=>Em E lo k (aw o b))/\∀m∈aw o b,XL m
 |[],_,.nil,_=>⟨X0.of fun _ _=>.nil,fun _ h=>by cases h⟩
 |p::k,f::b,.cons hp h,hl=>by
  obtain⟨e,g⟩:=ln i r q d h fun f u=>hl f (Zc _ u)
  have j:=hl f (Ze ..);cases f with
  |nil=>
   obtain⟨x,w,v⟩:=hp;cases v;exact⟨(e.and (fo i (lo:=lo) w).Xi).mono fun E K ⟨e1,e2⟩=>.skip e2 e1,g⟩
  |cons t D=>
   simp only[Zi]at j;obtain⟨c,s,l⟩:=jm i r q d hp (by omega);obtain⟨y,z,A,C,rfl⟩:=l.eight;have n:=l.Pk;refine⟨(e.and s.Xi).mono fun E K ⟨e1,e2⟩=>.new n.1 e2 e1,fun m a=> ?_⟩;rcases Zk.1 a with rfl|a
   ·exact n
   ·exact g m a
theorem dW (o:List (List Int)):∀(a:List (List Qm)),(aw o a).length<=a.length
 |[]=>Zh _
 |f::a=>by
  have:=dW o a;unfold aw;split
  ·simp only[Zi];omega
  ·simp only[Zi];omega
structure Gw (H:List Xz)(x:PK)(acc:List (List Nat)):Prop where
 px:ae x=pS acc
 own:∀id v es,x=some (id,v,es)->H[id]? =some (V3 v es)/\es=acc.map mo
theorem Fg {E:Xb}{K:Nat}(n:E.mode=md){G L:PL}{f:List PL}(I:Sl L (Xu f))(D:f.length<1000000):∀{rest:List PL} {o:List (List Nat)},Em E G rest o->∀(i k:Nat) (x:PK) (H:List Xz) (d:List (List Nat)),f.drop i=rest->Gw H x d->i+rest.length=f.length->rest.length<k->d.length+rest.length<1000000->
  ∃j M P,Xc E K 0 [1,5,10,11,12] x22_1 k ⟨BW G L (Qk x) f.length i,H⟩=some (.exit 0,⟨j,M⟩)/\Xh j 5=some (.one (Qk P))/\Gw M P (d++o):=by
 intro rest o h;induction h with
 |nil=>
  intro i k x H d _ g r A _;obtain⟨k,rfl⟩:∃u,k=u+1:=⟨k-1,by omega⟩;simp only[Zu,Z3]at r;subst r;have :∃j,Xc E K 0 [1,5,10,11,12] x22_1 (k+1) ⟨BW G L (Qk x) f.length f.length,H⟩=some (.exit 0,⟨j,H⟩)/\Xh j 5=some (.one (Qk x)):=by
   apply VM
   ·rw[Xc];simp only[Xp,Xq,reduceIte,Nat.reduceEqDiff,x22_1,Zv];rfl
   ·simp only[Xp,reduceIte,Nat.reduceEqDiff]
  obtain⟨j,T,U⟩:=this;exact⟨j,H,x,T,U,by rw[ZN];exact g⟩
 |@skip p Y o z h B=>
  intro i k x H d C g r A F;obtain⟨k,rfl⟩:∃u,k=u+1:=⟨k-1,by omega⟩;simp only[Zi]at r A F;obtain⟨y,w⟩:=Xf C;obtain⟨J,e⟩:=BT (K:=K) (k:=k) n I y D z (Qk x) H;rw[e];exact B (i+1) k x (H++J) d w ⟨g.px,fun id v s e=>⟨X1 (g.own id v s e).1 J,(g.own id v s e).2⟩⟩ (by omega) (by omega) (by omega)
 |@new p a b c e m Y o N z h B=>
  intro i k x H d C g r A F;obtain⟨k,rfl⟩:∃u,k=u+1:=⟨k-1,by omega⟩;simp only[Zi]at r A F;obtain⟨y,w⟩:=Xf C;have Q:d++m::o=(d++[m])++o:=by simp
  rw[Q];cases x with
  |none=>
   have W:d=[]:=by
    have:=g.px;cases d with
    |nil=>rfl
    |cons a l=>cases this
   subst W;obtain⟨J,e,V⟩:=BV (K:=K) (k:=k) n I y D N z H;simp only[Qk];rw[e];refine B (i+1) k (some (H.length+2,0,[mo m])) (H++J) [m] w ⟨rfl,fun id v s e=> ?_⟩ (by omega) (by omega) (by simp;omega);simp only[Za,Zn]at e;obtain⟨rfl,rfl,rfl⟩:=e;refine⟨?_,rfl⟩;rw[ZI (by omega),YD];exact V
  |some q=>
   obtain⟨id,v,s⟩:=q;obtain⟨O,rfl⟩:=g.own id v s rfl;have t:id<H.length:=(Zd.1 O).1;obtain⟨J,e⟩:=BU (K:=K) (k:=k) n I y D N z (id:=id) (v:=v) (rs:=d.map mo) (by simp;omega) H O;have R:ae (some (id,v+1,d.map mo++[mo m]))=pS (d++[m]):=by
    have :pS (d++[m])=.Xv ((d++[m]).map mo):=by cases d<;>rfl
    rw[this];simp[ae]
   simp only[Qk];rw[e];refine B (i+1) k (some (id,v+1,d.map mo++[mo m])) _ (d++[m]) w ⟨R,fun X Z S e=> ?_⟩ (by omega) (by omega) (by simp;omega);simp only[Za,Zn]at e;obtain⟨rfl,rfl,rfl⟩:=e;exact⟨X1 (Yi t) J,by simp⟩
theorem vM {B:Xr}(t:wM B){w L:PL}{o:List (List Int)}(N:S6 w o)(M:VE o)(r:o.length<1000000){l:List PL}{b:List (List Qm)}(z:Sl L (Xu l))(i:T6 l b)(I:∀f∈b,f.length<100000)(Q:b.length<50000):Xs B 22 [.one L,.one w] (.one (pS (P8 (aw o b)).reverse)):=by
 have n:=t.toStd;obtain⟨F,G⟩:=ln n N M r i I;have J:l.length=b.length:=i.length;have p:=nT t G (by have:=dW o b;omega);rw[show S7 (Vz (aw o b)) []=P8 (aw o b)from rfl]at p;generalize pS (P8 (aw o b)).reverse=res at p;have a:res.scalar=true\/res.scalar=false:=by cases res.scalar<;>simp
 refine Xs.of (n.X6 _ _ rfl) ((F.and (p.Xi.and (n.Xi.and (X0.ge (l.length+1))))).mono fun E K ⟨D,e1,g,P⟩=> ?_);obtain⟨O,C,A,s,k,j⟩:=Fg (K:=K) g z (by omega) D 0 K none [] [] rfl ⟨rfl,fun _ _ _ h=>by cases h⟩ (by simp) (by omega) (by simp;omega);rw[ZO]at j;have c:=z.len;have d:=tJ (H:=C) (x:=A) (fun id v m e=>(j.own id v m e).1) 5;rw[j.px]at d;simp only[BW,Qk]at s;cases A with
 |none=>
  have u:=j.px;simp only[ae]at u;rw[<-u]at e1;simp only[Qk]at k;simp(decide:=true)only[Xp,Xq,WR,reduceIte,Nat.reduceAdd,x22,g,XW,c,XH,s,k,e1]
 |some q=>
  obtain⟨id,v,m⟩:=q;obtain⟨y,-⟩:=j.own id v m rfl;simp only[V3]at y;simp only[Qk]at k d;rcases a with a|a<;>
  simp(decide:=true)only[Xp,Xq,WR,reduceIte,Nat.reduceAdd,x22,g,XW,c,XH,s,k,e1,d,y,a]
end Go.Proofs.YtefpgecinlekpaaGreat
