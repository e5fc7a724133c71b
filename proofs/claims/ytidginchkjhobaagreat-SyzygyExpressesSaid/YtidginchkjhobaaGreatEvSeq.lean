/- Slots; one operation under the model's weakest preconditions; regions in the order of the text. -/
import Derived.Test.YtidginchkjhobaaGreatEvOpSim
import Derived.RangeFuncSeq
import Derived.OrdersIn
import Derived.TacticsIn
import Derived.LoopNIn
import Derived.RangeFuncCalls
import Derived.RangeFuncLeaves
namespace Go.Ev
open Go.RowKit
section
variable {lo:Nat}{P:Program}{O:BS}{w:World}{μ:Nat->Nat}{h:HF}{n:Nat}
def yQ (D:Nat):Deferred:={target:=.collected D,args:=#[]}
def Marks (lo:Nat)(O:BS)(w:World)(μ:Nat->Nat)(h:HF)(ds:List Deferred):Prop:=
 lo<=w.heap.size/\ds.Pairwise (fun x y=>x.target≠y.target)/\∀d∈ds,∃D,d=yQ D/\lo<=D/\w.heap[D]? =some (.deferred (some []))/\¬Live O μ h D
theorem Marks.mono {lo}{w'}{a}{e}{c:List Deferred}(s:Marks lo O w μ h c)(m:WL O w μ h w' a e):Marks lo O w' a e c:=by
 refine⟨Zy s.1 m.keeps.size,s.2.1,fun d k=> ?_⟩;obtain⟨D,i,j,f,g⟩:=s.2.2 d k;have b:D<w.heap.size:=(Yd.1 f).1;refine⟨D,i,j,(m.keeps.VS D b g).trans f,fun l=> ?_⟩;rcases m.keeps.live D l with h|h
 ·exact g h
 ·omega
structure WM (lo nt:Nat)(O:BS)(w:World)(μ:Nat->Nat)(h:HF)(a:Act)(T:List (Nat×DV)):Prop where
 oy:Marks lo O w μ h a.defers
 sz:a.tmps.size=nt
 slot:∀t d,Xi T t=some d->XF w O μ h (a.tmps.getD t undef) d
theorem WM.mono {e}{w'}{b}{c}{a}{T}(s:WM lo e O w μ h a T)(m:WL O w μ h w' b c):WM lo e O w' b c a T:=
 ⟨s.oy.mono m,s.sz,fun t d f=>(s.slot t d f).mono m⟩
theorem U2 (t)(v)(T)(k):Xi ((t,v)::T) k=if t=k then some v else Xi T k:=by simp_all [Xi]
theorem WM.put {f}{a}{T}(s:WM lo f O w μ h a T)(b)(i:OH f b=true)(v)(d)(k:XF w O μ h v d):WM lo f O w μ h (a.put b v) (O2 T b d):=by
 cases b with
 |none=>exact s
 |some q=>
  have j:q<f:=QG i;refine⟨s.oy,by simp[Act.put,s.sz],fun t g c=> ?_⟩;simp only[O2,U2]at c;simp only[Act.put];by_cases e:q=t
  ·subst e;rw[if_pos rfl]at c;cases c;have :(a.tmps.setIfInBounds q v).getD q undef=v:=by
    rw[YH,Array.getElem?_setIfInBounds_self_of_lt (by rw[s.sz];exact j)];rfl
   rw[this];exact k
  ·rw[if_neg e]at c;have :(a.tmps.setIfInBounds q v).getD t undef=a.tmps.getD t undef:=by
    simp_all
   rw[this];exact s.slot t g c
theorem Ek {v}{p}(a:Hg v=some p):XF w O μ h v (inj p):=by
 unfold Hg at a;split at a
 ·rename_i c;cases b:Xw mF c.toList with
  |none=>simp[b]at a
  |some j=>
  simp only[b,Zb]at a;subst a;refine⟨c.toList,by simp,?_⟩;have:=Pz (R:=fun v l=>mF v=some l) (fun _ _ e=>e) b;generalize c.toList=d at this;clear b;induction this with
  |nil=>exact .nil
  |cons g _ i=>exact .cons (.p _ _ (jX g _)) i
 ·rename_i d;split at a<;>simp only[Zb,reduceCtorEq]at a;subst a;rename_i f;have :d=#[]:=by simpa using f
  subst this;exact⟨[],rfl,.nil⟩
 ·cases b:mF v with
  |none=>simp[b]at a
  |some l=>
  simp only[b,Zb]at a;subst a;exact XH.p _ _ (jX b _)
theorem WM.eval {m}{a}{T}(s:WM lo m O w μ h a T)(x:Operand)(j:VB)(d)(b:XJ x=some j)(c:j.eval T=some d):XF w O μ h (a.eval x) d:=by
 cases x with
 |tmp t=>simp only[XJ,Zb]at b;subst b;exact s.slot t d c
 |const v=>
  simp only[XJ]at b;cases e:Hg v with
  |none=>simp[e]at b
  |some p=>
  simp only[e,Zb]at b;subst b;simp only[VB.eval,Zb]at c;subst c;exact Ek e
 |global g=>simp[XJ]at b
 |func f=>
  simp only[XJ]at b;split at b<;>simp only[Zb,reduceCtorEq]at b;rename_i k;subst b;simp only[VB.eval,Zb]at c;subst c;have:=Ws.fn (w:=w) (O:=Live O μ h) f [] [] rfl fun i d v l=>by simp at l
  rw[oc k]at this;exact XH.p _ _ this
def rH (P:Program)(f:Nat):Prop:=∀(args:Array Value) (w:World),(callFunc f args).run P w=.ok (.enter f args) w
theorem fp {f : FuncId} {fn : Func} {c : Code} (hf : P.funcs[f]? = some fn) (hname : (fn.name == "runtime.NumGoroutine") = false) (hb : fn.body = some c) : rH P f := by
 intro args w
 simp_all [callFunc]
def QV:dK->Bool
 | .call _=>true
 | .Sw=>true
 |_=>false
theorem gx {f}{e}{b}(a:XY P f=some (e,b))(d:QV e=true):∃c,f=.call c:=by
 cases f with
 |call c=>exact⟨c,rfl⟩
 |makeFunc h first g=>
  cases h<;>simp only[XY]at a<;>(repeat' split at a)<;>simp only[Zb,Zq,reduceCtorEq]at a<;>(try(obtain⟨rfl,rfl⟩:=a;simp[QV]at d))
 |makeMap t k=>cases k<;>simp only[XY]at a<;>(repeat' split at a)<;>simp only[Zb,Zq,reduceCtorEq]at a<;>(try(obtain⟨rfl,rfl⟩:=a;simp[QV]at d))
 |slice t x lo i j=>
  cases j with
  |none=>simp only[XY]at a<;>(repeat' split at a)<;>simp only[Zb,Zq,reduceCtorEq]at a<;>(try(obtain⟨rfl,rfl⟩:=a;simp[QV]at d))
  |some m=>
   cases lo with
   |none=>simp[XY]at a
   |some l=>
   cases i with
   |none=>simp[XY]at a
   |some u=>simp only[XY]at a<;>(repeat' split at a)<;>simp only[Zb,Zq,reduceCtorEq]at a<;>(try(obtain⟨rfl,rfl⟩:=a;simp[QV]at d))
 |_=>simp only[XY]at a<;>(repeat' split at a)<;>simp only[Zb,Zq,reduceCtorEq]at a<;>(try(obtain⟨rfl,rfl⟩:=a;simp[QV]at d))
def xS (P:Program)(f:Nat)(caps:N')(xss:List (List PV)):Prop:=
 ∀(l:Nat) (cv:List Value) (J:Nat->World->Prop) (Jx:World->Prop),
  (∀i W,J i W->∃L:BS,XE (Ws W L) cv caps)->
  (∀i W xs vs,J i W->xss[i]? =some xs->XE (fun v x=>∀L μ h,XF W L μ h v (inj x)) vs xs->YieldAt Fence.wide 0 P l vs.toArray W fun e W'=>(e=.returned (.bool true)/\J (i+1) W')\/(e=.returned (.bool false)/\Jx W'))->
  ∀W,J 0 W->CallsIn Fence.wide 0 P f (#[.func (.yield l) #[] #[]]++cv.toArray) W fun e W'=>(∃v,e=.returned v)/\(J xss.length W'\/Jx W')
structure WI (P:Program)(E:Xa):Prop where
 pure:∀f ps r,E.pure f ps=some r->CC P f ps r/\rH P f
 heap:∀f args H d H',E.heap f args H=some (d,H')->CH P f args H d H'/\rH P f
 iter:∀f caps xss,E.iter f caps=some xss->xS P f caps xss/\rH P f
theorem mR {a}{o}{r}{next:Act->World->Prop}{Q:Exit->Act->World->Prop}(i:V5 O w μ h n ((execOp a.eval o).run P w) r)
  (g:∀v w' c,XF w' O c (rz h n r) v r.val->X1 w' O c (rz h n r)->WL O w μ h w' c (rz h n r)->next (a.put o.dst v) w'):o.wp P a w next Q:=by
 obtain⟨v,w',c,b,d,e,f⟩:=i;unfold Oper.wp;rcases b with b|⟨b,rfl⟩
 ·rw[b];exact g v w' c d e f
 ·rw[b];exact g _ w' c d e f
theorem ve {c d:Type}{R:Value->d->Prop}(g:c->Value){a}{b}(f:XE (fun x y=>R (g x) y) a b):XE R (a.map g) b:=by
 induction f with
 |nil=>exact .nil
 |cons e _ h=>exact .cons e h
theorem np {a:Act}{o:Oper}(args:Array Operand)(b:Array TypeId)(f:Nat)(d:o.op=.call ⟨.value (.func f),args,b⟩)(c:rH P f):
  (execOp a.eval o).run P w=.ok (.enter f (args.toList.map a.eval).toArray) w:=by
 have e1:∀(q:Array Value),(callFunc f q).run P w=.ok (.enter f q) w:=fun q=>c q w
 have e:a.eval (.func f)=.func (.func f) #[] #[]:=rfl;simp only[execOp,d,resolve,Deferred.ofValue,e,Sem.run_bind,Sem.run_pure,Result.andThen_ok,invoke,e1];congr 2;apply Array.ext';simp
theorem NW {a:Act}{o:Oper}(x:Operand)(args:Array Operand)(d:Array TypeId)(i:o.op=.call ⟨.value x,args,d⟩)(f:Nat)(e:List Value)(c:a.eval x=BI f e)(h:rH P (hJ f)):
  (execOp a.eval o).run P w=.ok (.enter (hJ f) (xy f (args.toList.map a.eval) e).toArray) w:=by
 have e1:∀(q:Array Value),(callFunc (hJ f) q).run P w=.ok (.enter (hJ f) q) w:=fun q=>h q w
 cases b:Nat.blt f bF with
 |true=>
  rw[oc b]at c;have g:hJ f=f:=by grind [hJ]
  rw[g]at e1;simp only[execOp,i,resolve,Deferred.ofValue,c,Sem.run_bind,Sem.run_pure,Result.andThen_ok,invoke,e1,g,xy,b,cond_true]
  simp_all [Array.ext']
 |false=>
  rw[Iu b]at c
  simp_all [hJ,execOp,resolve,Deferred.ofValue,invoke,xy]
theorem cV {h i:Type}{R:h->i->Prop}(f){g b:List h}{c a:List i}(d:XE R g c)(e:XE R b a):XE R (xy f g b) (xy f c a):=by
 unfold xy;cases Nat.blt f bF with
 |true=>exact d.append e
 |false=>exact e.append d
theorem zw (E:Xa)(hE:WI P E)(B:Nat){o:Oper}{z:dK}{s:List VB}(t:XY P o.op=some (z,s)){nt:Nat}{a:Act}{T:List (Nat×DV)}(a5:WM lo nt O w μ h a T)(N:X')
  (hT:Xw (VB.eval T) s=some N) (r:Vk) (I:Wf E B z N h n=some r) (hn:r.al≠[]->h n=none) (hI:X1 w O μ h) {next:Act->World->Prop} {Q:Exit->Act->World->Prop}
  (hk:∀v w' U,XF w' O U (rz h n r) v r.val->X1 w' O U (rz h n r)->WL O w μ h w' U (rz h n r)->next (a.put o.dst v) w'):o.wp P a w next Q:=by
 have K:=fun x xo d=>a5.eval x xo d
 have C:∀(f:Nat) (V:List Value) (R:X'),(execOp a.eval o).run P w=.ok (.enter f V.toArray) w->XE (XF w O μ h) V R->VL E h f R=some r->o.wp P a w next Q:=by
  intro f V R a0 X A;unfold Oper.wp;rw[a0,Oper.upon_enter];refine(B6 (n:=n) E f (fun ps r' h'=>(hE.pure f ps r' h').1) (fun as H d H' h'=>(hE.heap f as H d H' h').1) V R X r A hI).mono fun e w' ⟨v,he,h1,h2,h3⟩=> ?_
  grind
 have W:∀f R,VL E h f R=some r->rH P f:=by
  intro f R A;unfold VL at A;split at A
  ·split at A
   ·split at A
    ·rename_i ps _ r' a4;exact(hE.pure f _ _ a4).2
    ·simp at A
   ·simp at A
  ·simp at A
  ·obtain⟨as,H,d,H',hh⟩:=zZ A;exact(hE.heap f as H d H' hh).2
 by_cases k:(∃f,z=.call f)\/z=.Sw
 ·have a6:QV z=true:=by
   rcases k with⟨f,rfl⟩|rfl<;>rfl
  obtain⟨c,Z⟩:=gx t a6
  ·obtain⟨J,args,G⟩:=c;simp only[XY,Z]at t;cases L:PK args with
   |none=>simp[L]at t
   |some xs=>
   simp only[L]at t;have S:∀N,Xw (VB.eval T) xs=some N->XE (XF w O μ h) (args.toList.map a.eval) N:=fun N a3=>ve a.eval (Tp (fun p=>p) T a.eval K _ _ _ L a3)
   have a9:∀x x',XJ x=some x'->z=.Sw->s=x'::xs->o.op=.call ⟨.value x,args,G⟩->o.wp P a w next Q:=by
    intro x x' hx a8 a7 ho;subst a8;subst a7;obtain⟨d,a2,hd,Y,rfl⟩:=map_cons hT;have a1:=K _ _ _ hx hd;have ha:=S a2 Y;simp only[Wf]at I;unfold Rr at I;split at I
    ·rename_i f g V F;simp only[ZG]at F;obtain⟨rfl,rfl⟩:=F;have j:XH w O μ h (a.eval x) (.p (.fn f g)):=a1;generalize hv:a.eval x=v at j;cases j with
     |p _ _ A=>cases A with
      |fn _ _ cv hl D=>
       refine C (hJ f) _ _ (NW x args G ho f cv hv (W _ _ I)) (cV f ha ?_) I;refine XE.Uq (by simpa using hl) fun i u y hu M=> ?_
       rw[ZR]at M;cases m:g[i]? with
       |none=>simp[m]at M
       |some l=>simp only[m,Ym,Zb]at M;subst M;exact XH.p _ _ (D i l u m hu)
    ·rename_i f g V F;simp only[ZG]at F;obtain⟨rfl,rfl⟩:=F;have j:XH w O μ h (a.eval x) (.fn f g):=a1;generalize hv:a.eval x=v at j;cases j with
     |fn _ _ cv hl D=>
      refine C (hJ f) _ _ (NW x args G ho f cv hv (W _ _ I)) (cV f ha ?_) I;refine XE.Uq (by simpa using hl) fun i u y hu M=> ?_
      rw[ZR]at M;cases m:g[i]? with
      |none=>simp[m]at M
      |some l=>simp only[m,Ym,Zb]at M;subst M;exact D i l u m hu
    ·simp at I
   cases J with
   |invoke _ _=>simp at t
   |builtin b=>
    simp only at t;cases hb:XU P b G with
    |none=>simp[hb]at t
    |some op=>
     simp only[hb,Zb,Zq]at t;obtain⟨rfl,rfl⟩:=t;exact mR (gy E B b G args o Z op hb a.eval N (Tp (fun p=>p) T a.eval K _ _ _ L hT) r I hn hI) hk
   |value x=>
    cases x with
    |func f=>
     simp only[Zb,Zq]at t;obtain⟨rfl,rfl⟩:=t
     grind [Wf,np]
    |tmp q=>
     grind
    |const q=>
     grind
    |global q=>simp[XJ]at t
 ·exact mR (E4 E B t T a.eval K N hT r I (fun f e=>k (.inl ⟨f,e⟩)) (fun e=>k (.inr e)) hn hI) hk
end
theorem yr {a b:Type}:∀l n v (k:List a->b),Gy l n v k=k (l.set n v)
 |[],_,_,_=>rfl
 |_::_,0,_,_=>rfl
 |x::xs,n+1,v,k=>by simp only[Gy];rw[yr xs n v];rfl
theorem zN {a b:Type}:∀l m (k:List a->b),H5 l m k=k (l++m)
 |[],_,_=>rfl
 |x::xs,m,k=>by simp only[H5];rw[zN xs m];rfl
theorem yP {a:Type}(n)(k:Nat->a):tK n k=k n:=by cases n<;>rfl
theorem Ho {a:Type}(n)(k:Int->a):JJ n k=k n:=by cases n<;>simp[JJ,yP]
theorem tY {a:Type}(l)(k:DL->a):yX l k=k l:=by
 unfold yX
 grind [Ho,yP]
theorem jY {a:Type}:∀l (k:Y'->a),gT l k=k l
 |[],_=>rfl
 |x::xs,k=>by simp only[gT];rw[tY,jY xs]
theorem bL {a:Type}(v)(k:DV->a):Gf v k=k v:=by
 cases v with
 |one l=>simp[Gf,tY]
 |agg b=>simp[Gf,jY]
 |Wd c=>rfl
theorem TA {b:Type}(T)(a)(v)(k:List (Nat×DV)->b):DB T a v k=k (O2 T a v):=by cases a<;>rfl
theorem dN {c:Type}:∀(a:List (Nat×Xx)) H (k:V'->c),Mg H a k=k (Uh H a)
 |[],_,_=>rfl
 |(id,b)::a,H,k=>by simp only[Mg,Uh];rw[yr,dN a]
theorem lH {b:Type}(H a)(k:V'->b):M6 H a k=k (NI H a):=by
 cases a with
 |nil=>rfl
 |cons x c=>grind [M6,NI,zN]
theorem lU (H)(id)(b)(a:id<H.length):Xj (H.set id b)=fun x=>if x=id then some b else Xj H x:=by grind [Xj]
theorem rn:∀(a:List (Nat×Xx)) H,(∀q∈a,q.1<H.length)->Xj (Uh H a)=SC (Xj H) a/\(Uh H a).length=H.length
 |[],_,_=>⟨rfl,rfl⟩
 |(id,b)::a,H,hw=>by
  have c:=hw (id,b) (by simp);obtain⟨d,e⟩:=rn a (H.set id b) (fun q f=>by grind)
  grind [Uh,SC,lU]
theorem iA:∀a H,Xj (H++a)=RX (Xj H) H.length a
 |[],H=>by simp[RX]
 |b::bs,H=>by
  have:=iA bs (H++[b]);rw[Zp,ZW]at this;rw[this];simp only[RX,Zn,ZK];congr 1
  grind [Xj]
theorem PX (H a):NI H a=H++a:=by grind [NI]
theorem iD {E}{h}{f}{a}{r}(d:WX E h f a=some r):(r.wr=[]/\r.rd=[]/\r.al=[]/\TH a=none)\/∃id XW c b e,TH a=some (id,XW,c)/\h id=some b/\r.wr=[(id,e)]/\r.rd=[id]/\r.al=[]:=by
 unfold WX at d;split at d
 ·grind
 grind
theorem Gb {E}{h}{f}{a}{r}(c:WX E h f a=some r):∀q∈r.wr,∃b,h q.1=some b:=by
 rcases iD c with⟨e,_⟩|⟨id,_,_,b,d,_,g,e,_⟩
 ·rw[e];simp
 grind
theorem Gc {E}{h}{f}{a}{r}(c:WX E h f a=some r):∀id∈r.rd,∃b,h id=some b:=by
 rcases iD c with⟨_,e,_⟩|⟨id,_,_,b,d,_,g,_,e,_⟩
 ·rw[e];simp
 grind
theorem vI {E}{h c}{f}{a}{r}(i:WX E h f a=some r)(d:∀id∈r.rd,c id=h id):WX E c f a=some r:=by
 rcases iD i with⟨_,_,_,g⟩|⟨id,XW,j,b,k,g,l,_,e,_⟩
 ·grind [WX]
 grind [WX]
theorem ie (E)(g)(s)(u)(h)(n)(r)(a:Wf E g s u h n=some r):∀q∈r.wr,∃b,h q.1=some b:=by
 have j:∀f o,VL E h f o=some r->∀q∈r.wr,∃b,h q.1=some b:=by
  intro f o c;unfold VL at c;split at c
  ·split at c
   ·split at c
    ·simp only[YJ]at c;split at c<;>simp only[Zb]at c<;>subst c
     ·simp
     ·intro q v;obtain⟨id,_,m⟩:=List.mem_filterMap.1 v;cases p:h id with
      |none=>simp[p]at m
      |some b=>grind
    ·simp at c
   ·simp at c
  ·simp at c
  ·exact Gb c
 cases s with
 |call f=>exact j f u a
 |Sw=>
  simp only[Wf,Rr]at a
  grind
 |store t=>
  simp only[Wf,QN]at a;split at a
  ·split at a
   ·grind [P4]
   ·simp at a
  ·simp at a
 |append e t bytes=>
  simp only[Wf,Vs]at a;split at a
  ·split at a
   ·obtain⟨_,a⟩:=Wq a;split at a
    ·simp only[W9]at a
     grind
    ·split at a
     ·rename_i b p;rw[YJ]at a;split at a
      ·grind [TE]
      grind [RQ]
     ·simp at a
    ·simp at a
   ·simp at a
  ·simp at a
 |clear z=>
  simp only[Wf,QQ]at a
  grind
 |copy t=>
  simp only[Wf,Oh]at a;split at a
  ·grind [Nw]
  ·simp at a
 |lookup i k l z x=>
  have d:r.wr=[]:=by
   simp only[Wf,Tl,bn,YJ]at a
   grind
  rw[d];simp
 |mapUpdate i k l w=>
  simp only[Wf,VK]at a;split at a
  ·split at a
   ·grind [iG]
   ·simp at a
  ·simp at a
 |_=>
  have d:r.wr=[]:=by
   simp only[Wf,ba,Re,aZ,cD,QR,Oi,Uf,Of,jJ,be,Uz,US,jI,bd,UE,VX,RE,Uo,SL,Og,QO,Rf,OE,bc,UD,Qt,Tk,Sj,TR,Py,YJ]at a
   (repeat' split at a)<;>simp only[Zb,reduceCtorEq]at a<;>subst a<;>rfl
  rw[d];simp
section
variable {lo:Nat}{P:Program}{O:BS}{w:World}{μ:Nat->Nat}{n:Nat}
theorem kA {y}{h}{a}{T}(k:WM lo y O w μ h a T)(e)(g:Option (Nat×Bool))(m:Option (Nat×Bool))(i:Qi e g=some m)(b)(f:U7 T m=some b)(o)(u:o.guard=g):
  Region.wanted o (yielded e.toArray a.tmps)=b:=by
 cases g with
 |none=>
  grind [Qi,U7,Region.wanted]
 |some q=>
  obtain⟨j,r⟩:=q;simp only[Qi]at i;cases p:e[j]? with
  |none=>simp[p]at i
  |some s=>
  simp only[p]at i;cases n:s.dst with
  |none=>simp[n]at i
  |some d=>
  simp only[n,Zb]at i;subst i;simp only[U7]at f;have x:yielded e.toArray a.tmps j=match a.tmps[d]? with |some (.bool c)=>some c|_=>none:=by
   grind [yielded]
  simp only[Region.wanted,u,x];split at f
  ·rename_i c l;simp only[Zb]at f;subst f;have:=(k.slot d _ l).RK;rw[YH]at this
   grind [undef]
  ·rename_i l;simp only[Zb]at f;subst f;obtain⟨z,v,t⟩:=k.slot d _ l;cases t;rw[YH]at v
   grind
  ·simp at f
theorem fg (E:Xa)(hE:WI P E)(C:Nat)(heap:Bool){nt:Nat}(K:List Oper){o:Oper}{xo:Xz}(X:Tv P nt K o=some xo){a:Act}{s s':St}{rd wr:P'}
  (h:Vz E C heap xo s=some (s',rd,wr)) (hI:X1 w O μ (Xj s.H)) (t:WM lo nt O w μ (Xj s.H) a s.T) {next:Act->World->Prop} {Q:Exit->Act->World->Prop}
  (hk:∀a' w' m,X1 w' O m (Xj s'.H)->WM lo nt O w' m (Xj s'.H) a' s'.T->WL O w μ (Xj s.H) w' m (Xj s'.H)->next a' w'):
  (Region.wanted o (yielded K.toArray a.tmps)=true/\o.wp P a w next Q)\/(Region.wanted o (yielded K.toArray a.tmps)=false/\next (a.put o.dst undef) w):=by
 unfold Tv at X;cases j:XY P o.op with
 |none=>simp[j]at X
 |some q=>
 obtain⟨op,args⟩:=q;simp only[j]at X;cases hg:Qi K o.guard with
 |none=>simp[hg]at X
 |some g=>
 simp only[hg]at X;split at X<;>simp only[Zb,reduceCtorEq]at X;rename_i D;subst X;unfold Vz at h;simp only at h;cases R:U7 s.T g with
 |none=>simp[R]at h
 |some b=>
 have J:=kA t K o.guard g hg b R o rfl;cases b with
 |false=>
  simp only[R,TA,Zb,Zq]at h;obtain⟨rfl,_,_⟩:=h;right;exact⟨J,hk _ w μ hI (t.put o.dst D undef (.Wd []) ⟨[],rfl,.nil⟩) (WL.refl _ _ _ _)⟩
 |true=>
  simp only[R]at h;left;refine⟨J,?_⟩;cases hT:Xw (VB.eval s.T) args with
  |none=>simp[hT]at h
  |some V=>
  simp only[hT]at h;cases hh:(heap&&XQ E op V)with
  |false=>
   simp only[hh,cond_false]at h;cases N:Wf E C op V (Xj s.H) s.H.length with
   |none=>simp[N]at h
   |some r=>
   simp only[N,PH,bL,TA,dN,lH,Zb,Zq]at h;obtain⟨rfl,_,_⟩:=h;have b5:=ie E C op V _ _ r N;obtain⟨a8,a9⟩:=rn r.wr s.H (fun q hq=>by
    grind [Xj])
   have hH:Xj (NI (Uh s.H r.wr) r.al)=rz (Xj s.H) s.H.length r:=by
    rw[PX,iA,a8,a9];rfl
   refine zw E hE C j t V hT r N (fun _=>by simp[Xj]) hI fun v w' m h1 h2 M=> ?_
   rw[<-hH]at h1 h2 M;exact hk _ w' m h2 ((t.mono M).put o.dst D v r.val h1) M
  |true=>
   simp only[hh,cond_true,PG]at h;rw[Zs]at hh;have a2:∀(f:Nat) (vs:List Value) (dv:X'),(rH P f->(execOp a.eval o).run P w=.ok (.enter f vs.toArray) w)->XE (XF w O μ (Xj s.H)) vs dv->VA E o.dst f dv s=some (s',rd,wr)->o.wp P a w next Q:=by
    intro f vs dv Y W h;unfold VA at h;cases hm:E.mode f with
    |pure=>simp[hm]at h
    |view=>simp[hm]at h
    |heap=>
     simp only[hm]at h;cases B:E.heap f dv s.H with
     |none=>simp[B]at h
     |some q=>
     obtain⟨v,H2⟩:=q;simp only[B,TA,Zb,Zq]at h;obtain⟨rfl,_,_⟩:=h;obtain⟨a0,G⟩:=hE.heap f dv s.H v H2 B;unfold Oper.wp;rw[Y G,Oper.upon_enter];refine(a0 w O μ _ hI W).mono fun e w' ⟨u,m,B,h1,h2,M⟩=> ?_
     subst B;exact hk _ w' m h2 ((t.mono M).put o.dst D u v h1) M
    |fresh=>
     simp only[hm]at h;cases B:UL E f dv s.H with
     |none=>simp[B]at h
     |some q=>
     obtain⟨v,H2⟩:=q;simp only[B,TA,Zb,Zq]at h;obtain⟨rfl,_,_⟩:=h;obtain⟨a0,G⟩:=EU (fun as H d H' h'=>(hE.heap f as H d H' h')) B;unfold Oper.wp;rw[Y G,Oper.upon_enter];refine(a0 w O μ _ hI W).mono fun e w' ⟨u,m,B,h1,h2,M⟩=> ?_
     subst B;exact hk _ w' m h2 ((t.mono M).put o.dst D u v h1) M
   have b0:QV op=true:=by
    have:=hh.2;unfold XQ at this;split at this
    ·rfl
    ·rfl
    ·simp at this
   obtain⟨c,a7⟩:=gx j b0;obtain⟨L,k,U⟩:=c;rw[a7]at j;simp only[XY]at j;cases a1:PK k with
   |none=>simp[a1]at j
   |some xs=>
   simp only[a1]at j;have Z:∀V,Xw (VB.eval s.T) xs=some V->XE (XF w O μ (Xj s.H)) (k.toList.map a.eval) V:=fun V a6=>ve a.eval (Tp (fun p=>p) s.T a.eval (fun x xo d=>t.eval x xo d) _ _ _ a1 a6)
   have b3:∀x x',XJ x=some x'->op=.Sw->args=x'::xs->o.op=.call ⟨.value x,k,U⟩->o.wp P a w next Q:=by
    intro x x' hx b2 b1 ho;subst b2;subst b1;obtain⟨d,a5,hd,a3,rfl⟩:=map_cons hT;have a4:=t.eval _ _ _ hx hd;have ha:=Z a5 a3;simp only at h;split at h
    ·rename_i f n vs I;simp only[ZG]at I;obtain⟨rfl,rfl⟩:=I;have z:XH w O μ (Xj s.H) (a.eval x) (.p (.fn f n)):=a4;generalize hv:a.eval x=v at z;cases z with
     |p _ _ hp=>cases hp with
      |fn _ _ cv hl F=>
       refine a2 (hJ f) _ _ (fun B=>NW x k U ho f cv hv B) (cV f ha ?_) h;refine XE.Uq (by simpa using hl) fun i u y hu S=> ?_
       rw[ZR]at S;cases A:n[i]? with
       |none=>simp[A]at S
       |some l=>simp only[A,Ym,Zb]at S;subst S;exact XH.p _ _ (F i l u A hu)
    ·rename_i f n vs I;simp only[ZG]at I;obtain⟨rfl,rfl⟩:=I;have z:XH w O μ (Xj s.H) (a.eval x) (.fn f n):=a4;generalize hv:a.eval x=v at z;cases z with
     |fn _ _ cv hl F=>
       refine a2 (hJ f) _ _ (fun B=>NW x k U ho f cv hv B) (cV f ha ?_) h;refine XE.Uq (by simpa using hl) fun i u y hu S=> ?_
       rw[ZR]at S;cases A:n[i]? with
       |none=>simp[A]at S
       |some l=>simp only[A,Ym,Zb]at S;subst S;exact F i l u A hu
    ·simp at h
   cases L with
   |invoke _ _=>simp at j
   |builtin b=>
    simp only at j;cases hb:XU P b U with
    |none=>simp[hb]at j
    |some b4=>
     simp only[hb,Zb,Zq]at j;obtain⟨rfl,_⟩:=j;exfalso;unfold XU at hb
     grind
   |value x=>
    cases x with
    |func g=>
     grind [np]
    |tmp q=>
     grind
    |const q=>
     grind
    |global q=>simp[XJ]at j
def Uw (F:Fence):Prop:=F=Fence.wide\/∃l,F=Fence.wide.inRound l
theorem Uw.fn {F}(a:Uw F)(f):F.fn f:=by rcases a with rfl|⟨l,rfl⟩<;>trivial
theorem Uw.depth {F}(a:Uw F):F.depth.isSome=false:=by rcases a with rfl|⟨l,rfl⟩<;>rfl
theorem Uw.calls {F}(a:Uw F){n}{f}{args}{w}{R:Ending->World->Prop}(h:Calls P f args w R):CallsIn F n P f args w R:=by
 rcases a with rfl|⟨l,rfl⟩
 ·exact callsIn_wide.2 h
 grind [CallsIn.inRound,callsIn_wide]
theorem Uw.rows {F}(d:Uw F){n}{a:String}{args}{w}{R:Value->World->Prop}(h:Rows P a args w R):RowsIn F n P a args w R:=by
 intro c b _;obtain⟨v,w',r,s⟩:=h c b;rcases d with rfl|⟨l,rfl⟩
 ·grind [stepsIn_wide]
 ·exact⟨v,w',r,stepsIn_wide.2 s⟩
theorem SU {a}{q:dK×List VB}(h:XY P a=some q):∀c,a≠.defer c:=by grind [XY]
theorem cA {F:Fence}(b:Uw F){n:Nat}{o:Oper}{a:Act}{next:Act->World->Prop}{Q:Exit->Act->World->Prop}(d:∀c,o.op≠.defer c)(h:o.wp P a w next Q):o.wpIn F n P a w next Q:=by
 refine⟨fun f _=>b.fn f,?_⟩;rw[Oper.semAt_eq _ _ _ d];unfold Oper.wp at h;generalize (execOp a.eval o).run P w=r at h⊢;cases r with
 |ok e w'=>cases e with
  |enter f args=>exact⟨by rw[b.depth];simp,b.calls h⟩
  |row r args=>exact⟨by rw[b.depth];simp,b.rows h⟩
  |round l f tmps as g=>exact absurd h (fun h=>h)
  |_=>exact h
 |halt x w'=>cases x<;>exact h
theorem kP (E:Xa)(hE:WI P E){F:Fence}(v:Uw F)(n b:Nat){nt:Nat}(d:List Oper){Q:Exit->Act->World->Prop}:∀(l:List Oper) (k:O'),Xw (Tv P nt d) l=some k->∀(s g:St) (a:Act) (w:World) (μ:Nat->Nat),U8 E b k s=some g->
  X1 w O μ (Xj s.H)->WM lo nt O w μ (Xj s.H) a s.T->
  (∀h w' e,X1 w' O e (Xj g.H)->WM lo nt O w' e (Xj g.H) h g.T->WL O w μ (Xj s.H) w' e (Xj g.H)->Q .normal h w')->wpListIn F n P d.toArray Q l a w
 |[],k,hx,s,g,a,w,μ,hr,hI,hsl,hk=>by
  rw[jU hx]at hr;simp only[U8,Zb]at hr;subst hr;exact hk a w μ hI hsl (WL.refl _ _ _ _)
 |o::l,k,hx,s,g,a,w,μ,hr,hI,hsl,hk=>by
  obtain⟨I,t,r,p,rfl⟩:=map_cons hx;simp only[U8]at hr;cases m:Vz E b true I s with
  |none=>simp[m]at hr
  |some q=>
  obtain⟨D,J,K⟩:=q;simp only[m]at hr;have:=fg (O:=O) (w:=w) (μ:=μ) E hE b true d r m hI hsl (next:=wpListIn F n P d.toArray Q l) (Q:=Q) fun h w' e i j B=>
   kP E hE v n b d l t p D g h w' e hr i j fun x G u y z A=>hk x G u y z (B.trans A)
  have C:∀c,o.op≠.defer c:=by
   grind [Tv,SU]
  unfold wpListIn;rcases this with⟨i,j⟩|⟨i,j⟩
  ·grind [cA]
  ·rw[if_neg (by rw[i];simp)];exact⟨fun f _=>v.fn f,j⟩
end
section
variable {lo:Nat}{P:Program}{O:BS}{w w':World}{μ:Nat->Nat}{h:HF}
structure Tx (w w':World):Prop where
 size:w.heap.size<=w'.heap.size
 cells:∀(b:Nat) (C:Array Value) (T:TypeId) (z:Nat×Nat),w.heap[b]? =some (.cells C T z)->w'.heap[b]? =some (.cells C T z)
 maps:∀(b:Nat) (es:Array MapEntry) (clk:Nat),w.heap[b]? =some (.map es clk)->w'.heap[b]? =some (.map es clk)
 M2:∀(b:Nat) (o:Obj),w.heap[b]? =some o->mO o->∃o',w'.heap[b]? =some o'/\mO o'
theorem Tx.cell (s:Tx w w'){a}{v}(b:w.cell? a=some v):w'.cell? a=some v:=by
 grind [World.cell?,cells]
theorem Ws.same (s:Tx w w'){L}{v}{l}(r:Ws w L v l):Ws w' L v l:=by
 induction r with
 |bool b=>exact .bool b
 |int a n=>exact .int a n
 |Xp=>exact .Xp
 |str x=>exact .str x
 |Qx v h=>exact .Qx v h
 |fn f k A D p o=>exact .fn f k A D o
 |ref b g z e u p E o=>exact .ref b g z e u (fun j d t=>s.cell (p j d t)) o
 |Xl b g G q B e u m F p E y o=>exact .Xl b g G q B e u m F (fun i c j d C t=>s.cell (p i c j d C t)) o y
theorem XH.same (s:Tx w w'){v}{l}(r:XH w O μ h v l):XH w' O μ h v l:=by
 induction r with
 |p v l A=>exact .p v l (A.same s)
 |own id XW a q b g o j d n k m=>
  refine .own id XW a q b g o j d n k fun e=> ?_
  obtain⟨u,C,T,x,y⟩:=m e;exact⟨u,C,T,s.cells _ _ _ _ x,y⟩
 |ptr id XW i a b g o d n m=>exact .ptr id XW i a b g o d n m
 |fn f c t k D B=>exact .fn f c t k B
 |mp id b d z=>exact .mp id b d z
theorem Ua.same (s:Tx w w'){v}{d}(r:Ua w O μ h v d):Ua w' O μ h v d:=by
 cases d with
 |one l=>exact XH.same s r
 |agg e=>obtain⟨c,b,a⟩:=r;exact⟨c,b,a.imp fun _ _=>XH.same s⟩
 |Wd f=>exact r
theorem XF.same (s:Tx w w'){v}{d}(r:XF w O μ h v d):XF w' O μ h v d:=by
 cases d with
 |one l=>exact Ua.same (d:=.one l) s r
 |agg a=>exact Ua.same (d:=.agg a) s r
 |Wd f=>obtain⟨e,c,b⟩:=r;exact⟨e,c,b.imp fun _ _=>Ua.same s⟩
theorem Wx.same (s:Tx w w'){id}{b}(a:Wx w O μ h id b):Wx w' O μ h id b:=by
 unfold Wx at a⊢;cases n:b.mp
 ·rw[n]at a;obtain⟨C,g,B,l⟩:=a;refine⟨C,s.cells _ _ _ _ g,B,fun i c m=>⟨(l i c m).1,fun j d A=> ?_⟩⟩;obtain⟨v,k,E⟩:=(l i c m).2 j d A;exact⟨v,k,E.same s⟩
 ·rw[n]at a;simp only[if_true]at a⊢;cases e:Nat.beq b.ty 2
  case true=>
   rw[e,if_pos rfl]at a;rw[if_pos rfl];obtain⟨o,D,z⟩:=a;exact s.M2 _ o D z
  rw[e,if_neg (by simp)]at a;rw[if_neg (by simp)];obtain⟨p,f,g,k,y⟩:=a;exact⟨p,f,s.maps _ _ _ g,k,y.imp fun x c ⟨F,G,q,r,t,u⟩=>⟨F,G,q,r,t,u.imp fun _ _=>XH.same s⟩⟩
theorem X1.same (s:Tx w w')(a:X1 w O μ h):X1 w' O μ h:=
 ⟨fun id b c=>(a.RV id b c).same s,a.inj,a.Rl,fun b c=>ZO (a.lt b c) s.size⟩
theorem Ti {l}{o}(d:w.heap[l]? =some o)(c:mO o){o'}(g:mO o'):Tx w (w.putObj l o'):=by
 refine⟨by simp[World.putObj],fun b C T z a=> ?_,fun b h f a=> ?_,fun b x a i=> ?_⟩
 ·have :b≠l:=fun e=>by rw[e,d]at a;cases a;exact c.1 _ _ _ rfl
  grind [World.putObj_heap_other]
 ·have :b≠l:=fun e=>by rw[e,d]at a;cases a;exact c.2 _ _ rfl
  grind [World.putObj_heap_other]
 grind [World.putObj_heap_same,World.putObj_heap_other]
theorem Sn {W}{d}{f}(i:X1 w O μ h)(m:WL O w μ h W d f){l}(k:w.heap.size<=l)(g):WL O w μ h (W.putObj l g) d f:=by
 have c:∀b,b<w.heap.size->(W.putObj l g).heap[b]? =W.heap[b]? :=fun b a=>World.putObj_heap_other (fun e=>by omega)
 refine⟨m.os,m.tape,m.output,⟨by simp only[World.putObj,Array.size_setIfInBounds];exact m.keeps.size,fun b a j=>(c b a).trans (m.keeps.VS b a j),m.keeps.live⟩,fun b a=>(c b (i.lt b a)).trans (m.aK b a),fun id b a=> ?_,m.maps⟩;obtain⟨n,o,p,q,r⟩:=m.ids id b a
 grind
theorem WM.same {c}{a}{T}(s:WM lo c O w μ h a T){l}{o}(i:w.heap[l]? =some o)(g:mO o)(j:∀x,o≠.deferred x){e}(b:mO e):WM lo c O (w.putObj l e) μ h a T:=by
 have f:=Ti i g b;refine⟨⟨Zy s.oy.1 f.size,s.oy.2.1,fun d b=> ?_⟩,s.sz,fun t d k=>(s.slot t d k).same f⟩;obtain⟨D,m,n,p,q⟩:=s.oy.2.2 d b
 grind [World.putObj_heap_other]
end
