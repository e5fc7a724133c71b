/- Slots; one operation under the model's weakest preconditions; regions in the order of the text. -/
import Derived.Test.YtidginchkjhobaaGreatEvOpSim
import Derived.RangeFuncSeq
import Derived.OrdersIn
import Derived.TacticsIn
import Derived.LoopNIn
import Derived.RangeFuncCalls
import Derived.RangeFuncLeaves
namespace Go.Ev
open Go.RowKit
section
variable {lo:Nat}{P:Program}{O:BS}{w:World}{μ:Nat->Nat}{h:HF}{n:Nat}
def tJ (D:Nat):Deferred:={target:=.collected D,args:=#[]}
def Marks (lo:Nat)(O:BS)(w:World)(μ:Nat->Nat)(h:HF)(ds:List Deferred):Prop:=
 lo<=w.heap.size/\ds.Pairwise (fun x y=>x.target≠y.target)/\∀d∈ds,∃D,d=tJ D/\lo<=D/\w.heap[D]? =some (.deferred (some []))/\¬Live O μ h D
theorem Marks.mono {lo:Nat}{w':World}{a:Nat->Nat}{e:HF}{c:List Deferred}(s:Marks lo O w μ h c)(m:WD O w μ h w' a e):Marks lo O w' a e c:=by
 refine⟨Zy s.1 m.keeps.size,s.2.1,fun d k=> ?_⟩;obtain⟨D,i,j,f,g⟩:=s.2.2 d k;have b:D<w.heap.size:=(Ya.1 f).1;refine⟨D,i,j,(m.keeps.VW D b g).trans f,fun l=> ?_⟩;rcases m.keeps.live D l with h|h
 ·exact g h
 ·omega
structure Wu (lo nt:Nat)(O:BS)(w:World)(μ:Nat->Nat)(h:HF)(a:Act)(T:List (Nat×DV)):Prop where
 jR:Marks lo O w μ h a.defers
 sz:a.tmps.size=nt
 slot:∀t d,Xh T t=some d->XB w O μ h (a.tmps.getD t undef) d
theorem Wu.mono {e:Nat}{w':World}{b:Nat->Nat}{c:HF}{a:Act}{T:List (Nat×DV)}(s:Wu lo e O w μ h a T)(m:WD O w μ h w' b c):Wu lo e O w' b c a T:=
 ⟨s.jR.mono m,s.sz,fun t d f=>(s.slot t d f).mono m⟩
theorem Ux (t:Nat)(v:DV)(T:List (Nat×DV))(k:Nat):Xh ((t,v)::T) k=if t=k then some v else Xh T k:=by
 simp only[Xh];by_cases e:t=k
 ·subst e;simp[YW]
 ·rw[if_neg e];have :Nat.beq t k=false:=by
   cases a:Nat.beq t k
   ·rfl
   ·exact absurd (Zl a) e
  rw[this];rfl
theorem Wu.put {f:Nat}{a:Act}{T:List (Nat×DV)}(s:Wu lo f O w μ h a T)(b:Option Nat)(i:Pp f b=true)(v:Value)(d:DV)(k:XB w O μ h v d):Wu lo f O w μ h (a.put b v) (OS T b d):=by
 cases b with
 |none=>exact s
 |some q=>
  have j:q<f:=RJ i;refine⟨s.jR,by simp[Act.put,s.sz],fun t g c=> ?_⟩;simp only[OS,Ux]at c;simp only[Act.put];by_cases e:q=t
  ·subst e;rw[if_pos rfl]at c;cases c;have :(a.tmps.setIfInBounds q v).getD q undef=v:=by
    rw[ZN,YJ (by rw[s.sz];exact j)];rfl
   rw[this];exact k
  ·rw[if_neg e]at c;have :(a.tmps.setIfInBounds q v).getD t undef=a.tmps.getD t undef:=by
    rw[ZN,Array.getElem?_setIfInBounds_ne e,ZN]
   rw[this];exact s.slot t g c
theorem yW {v:Value}{p:PV}(a:BE v=some p):XB w O μ h v (inj p):=by
 unfold BE at a;split at a
 ·rename_i c;cases b:Xt iC c.toList with
  |none=>simp[b]at a
  |some j=>
  simp only[b,Za]at a;subst a;refine⟨c.toList,by simp,?_⟩;have:=Qo (R:=fun v l=>iC v=some l) (fun _ _ e=>e) b;generalize c.toList=d at this;clear b;induction this with
  |nil=>exact .nil
  |cons g _ i=>exact .cons (.p _ _ (fP g _)) i
 ·rename_i d;split at a<;>simp only[Za,reduceCtorEq]at a;subst a;rename_i f;have :d=#[]:=by simpa using f
  subst this;exact⟨[],rfl,.nil⟩
 ·cases b:iC v with
  |none=>simp[b]at a
  |some l=>
  simp only[b,Za]at a;subst a;exact XL.p _ _ (fP b _)
theorem Wu.eval {m:Nat}{a:Act}{T:List (Nat×DV)}(s:Wu lo m O w μ h a T)(x:Operand)(j:W8)(d:DV)(b:Xy x=some j)(c:j.eval T=some d):XB w O μ h (a.eval x) d:=by
 cases x with
 |tmp t=>simp only[Xy,Za]at b;subst b;exact s.slot t d c
 |const v=>
  simp only[Xy]at b;cases e:BE v with
  |none=>simp[e]at b
  |some p=>
  simp only[e,Za]at b;subst b;simp only[W8.eval,Za]at c;subst c;exact yW e
 |global g=>simp[Xy]at b
 |func f=>
  simp only[Xy]at b;split at b<;>simp only[Za,reduceCtorEq]at b;rename_i k;subst b;simp only[W8.eval,Za]at c;subst c;have:=Wt.fn (w:=w) (O:=Live O μ h) f [] [] rfl fun i d v l=>by simp at l
  rw[jH k]at this;exact XL.p _ _ this
def mz (P:Program)(f:Nat):Prop:=∀(args:Array Value) (w:World),(callFunc f args).run P w=.ok (.enter f args) w
theorem cg {f : FuncId} {fn : Func} {c : Code} (hf : P.funcs[f]? = some fn) (hname : (fn.name == "runtime.NumGoroutine") = false) (hb : fn.body = some c) : mz P f := by
 intro args w;have h1 : fn.name ≠ "runtime.NumGoroutine" := by simpa using hname
 simp[callFunc,hf,h1,hb,mark]
def Rg:aT->Bool
 | .call _=>true
 | .TF=>true
 |_=>false
theorem du {f:Op}{e:aT}{b:List W8}(a:XR P f=some (e,b))(d:Rg e=true):∃c,f=.call c:=by
 cases f with
 |call c=>exact⟨c,rfl⟩
 |makeFunc h first g=>
  cases h<;>simp only[XR]at a<;>(repeat' split at a)<;>simp only[Za,Zo,reduceCtorEq]at a<;>(try(obtain⟨rfl,rfl⟩:=a;simp[Rg]at d))
 |makeMap t k=>cases k<;>simp only[XR]at a<;>(repeat' split at a)<;>simp only[Za,Zo,reduceCtorEq]at a<;>(try(obtain⟨rfl,rfl⟩:=a;simp[Rg]at d))
 |slice t x lo i j=>
  cases j with
  |none=>simp only[XR]at a<;>(repeat' split at a)<;>simp only[Za,Zo,reduceCtorEq]at a<;>(try(obtain⟨rfl,rfl⟩:=a;simp[Rg]at d))
  |some m=>
   cases lo with
   |none=>simp[XR]at a
   |some l=>
   cases i with
   |none=>simp[XR]at a
   |some u=>simp only[XR]at a<;>(repeat' split at a)<;>simp only[Za,Zo,reduceCtorEq]at a<;>(try(obtain⟨rfl,rfl⟩:=a;simp[Rg]at d))
 |_=>simp only[XR]at a<;>(repeat' split at a)<;>simp only[Za,Zo,reduceCtorEq]at a<;>(try(obtain⟨rfl,rfl⟩:=a;simp[Rg]at d))
def CH (P:Program)(f:Nat)(args:List DV)(H:List Xz)(d:DV)(H':List Xz):Prop:=
 ∀(w:World) (O:BS) (μ:Nat->Nat) (vs:List Value),X0 w O μ (Xn H)->XF (XB w O μ (Xn H)) vs args->
  Calls P f vs.toArray w fun e w'=>∃v μ',e=.returned v/\XB w' O μ' (Xn H') v d/\X0 w' O μ' (Xn H')/\WD O w μ (Xn H) w' μ' (Xn H')
def sj (P:Program)(f:Nat)(caps:List PL)(xss:List (List PV)):Prop:=
 ∀(l:Nat) (cv:List Value) (J:Nat->World->Prop) (Jx:World->Prop),
  (∀i W,J i W->∃L:BS,XF (Wt W L) cv caps)->
  (∀i W xs vs,J i W->xss[i]? =some xs->XF (fun v x=>∀L μ h,XB W L μ h v (inj x)) vs xs->YieldAt Fence.wide 0 P l vs.toArray W fun e W'=>(e=.returned (.bool true)/\J (i+1) W')\/(e=.returned (.bool false)/\Jx W'))->
  ∀W,J 0 W->CallsIn Fence.wide 0 P f (#[.func (.yield l) #[] #[]]++cv.toArray) W fun e W'=>(∃v,e=.returned v)/\(J xss.length W'\/Jx W')
structure Wq (P:Program)(E:Xa):Prop where
 pure:∀f ps r,E.pure f ps=some r->CC P f ps r/\mz P f
 heap:∀f args H d H',E.heap f args H=some (d,H')->CH P f args H d H'/\mz P f
 iter:∀f caps xss,E.iter f caps=some xss->sj P f caps xss/\mz P f
theorem iN {a:Act}{o:Oper}{r:Vc}{next:Act->World->Prop}{Q:Exit->Act->World->Prop}(i:VF O w μ h n ((execOp a.eval o).run P w) r)
  (g:∀v w' c,XB w' O c (sE h n r) v r.val->X0 w' O c (sE h n r)->WD O w μ h w' c (sE h n r)->next (a.put o.dst v) w'):o.wp P a w next Q:=by
 obtain⟨v,w',c,b,d,e,f⟩:=i;unfold Oper.wp;rcases b with b|⟨b,rfl⟩
 ·rw[b];exact g v w' c d e f
 ·rw[b];exact g _ w' c d e f
theorem pP {c d:Type}{R:Value->d->Prop}(g:c->Value){a:List c}{b:List d}(f:XF (fun x y=>R (g x) y) a b):XF R (a.map g) b:=by
 induction f with
 |nil=>exact .nil
 |cons e _ h=>exact .cons e h
theorem jb {a:Act}{o:Oper}(args:Array Operand)(b:Array TypeId)(f:Nat)(d:o.op=.call ⟨.value (.func f),args,b⟩)(c:mz P f):
  (execOp a.eval o).run P w=.ok (.enter f (args.toList.map a.eval).toArray) w:=by
 have e1:∀(q:Array Value),(callFunc f q).run P w=.ok (.enter f q) w:=fun q=>c q w
 have e:a.eval (.func f)=.func (.func f) #[] #[]:=rfl;simp only[execOp,d,resolve,Deferred.ofValue,e,Sem.run_bind,Sem.run_pure,Result.andThen_ok,invoke,e1];congr 2;apply Array.ext';simp
theorem Ox {a:Act}{o:Oper}(x:Operand)(args:Array Operand)(e:Array TypeId)(h:o.op=.call ⟨.value x,args,e⟩)(f:Nat)(g:List Value)(d:a.eval x=wk f g)(i:mz P (dH f)):
  (execOp a.eval o).run P w=.ok (.enter (dH f) (rN f (args.toList.map a.eval) g).toArray) w:=by
 have e1:∀(q:Array Value),(callFunc (dH f) q).run P w=.ok (.enter (dH f) q) w:=fun q=>i q w
 cases b:Nat.blt f NA with
 |true=>
  rw[jH b]at d;have c:dH f=f:=by simp only[dH,b,cond_true]
  rw[c]at e1;simp only[execOp,h,resolve,Deferred.ofValue,d,Sem.run_bind,Sem.run_pure,Result.andThen_ok,invoke,e1,c,rN,b,cond_true];congr 2;apply Array.ext';simp
 |false=>
  rw[CE b]at d;have c:dH f=f-NA:=by simp only[dH,b,cond_false]
  rw[c]at e1;simp only[execOp,h,resolve,Deferred.ofValue,d,Sem.run_bind,Sem.run_pure,Result.andThen_ok,invoke,e1,c,rN,b,cond_false];congr 2;apply Array.ext';simp
theorem ay {h i:Type}{R:h->i->Prop}(f:Nat){g b:List h}{c a:List i}(d:XF R g c)(e:XF R b a):XF R (rN f g b) (rN f c a):=by
 unfold rN;cases Nat.blt f NA with
 |true=>exact d.append e
 |false=>exact e.append d
theorem uf (E:Xa)(hE:Wq P E)(F:Nat){o:Oper}{D:aT}{A:List W8}(g:XR P o.op=some (D,A)){nt:Nat}{a:Act}{T:List (Nat×DV)}(a6:Wu lo nt O w μ h a T)(L:List DV)
  (hT:Xt (W8.eval T) A=some L) (r:Vc) (B:X8 E F D L h n=some r) (hn:r.al≠[]->h n=none) (hI:X0 w O μ h) {next:Act->World->Prop} {Q:Exit->Act->World->Prop}
  (hk:∀v w' X,XB w' O X (sE h n r) v r.val->X0 w' O X (sE h n r)->WD O w μ h w' X (sE h n r)->next (a.put o.dst v) w'):o.wp P a w next Q:=by
 have N:=fun x xo d=>a6.eval x xo d
 have m:∀(f:Nat) (Y:List Value) (V:List DV),(execOp a.eval o).run P w=.ok (.enter f Y.toArray) w->XF (XB w O μ h) Y V->Vk E h f V=some r->o.wp P a w next Q:=by
  intro f Y V a1 Z K;unfold Oper.wp;rw[a1,Oper.upon_enter];refine(wI (n:=n) E f (fun ps r' h'=>(hE.pure f ps r' h').1) Y V Z r K hI).mono fun e w' ⟨v,he,h1,h2,h3⟩=> ?_
  subst he;exact hk v w' μ h1 h2 h3
 have W:∀f V,Vk E h f V=some r->mz P f:=by
  intro f V K;unfold Vk at K;split at K
  ·split at K
   ·split at K
    ·rename_i ps _ r' a5;exact(hE.pure f _ _ a5).2
    ·simp at K
   ·simp at K
  ·simp at K
 by_cases s:(∃f,D=.call f)\/D=.TF
 ·have a7:Rg D=true:=by
   rcases s with⟨f,rfl⟩|rfl<;>rfl
  obtain⟨c,J⟩:=du g a7
  ·obtain⟨M,args,C⟩:=c;simp only[XR,J]at g;cases R:QA args with
   |none=>simp[R]at g
   |some xs=>
   simp only[R]at g;have G:∀L,Xt (W8.eval T) xs=some L->XF (XB w O μ h) (args.toList.map a.eval) L:=fun L a4=>pP a.eval (UR (fun p=>p) T a.eval N _ _ _ R a4)
   have U:∀x x',Xy x=some x'->D=.TF->A=x'::xs->o.op=.call ⟨.value x,args,C⟩->o.wp P a w next Q:=by
    intro x x' hx a9 a8 ho;subst a9;subst a8;obtain⟨d,a3,hd,a0,rfl⟩:=map_cons hT;have a2:=N _ _ _ hx hd;have ha:=G a3 a0;simp only[X8]at B;unfold SA at B;split at B
    ·rename_i f j Y I;simp only[ZJ]at I;obtain⟨rfl,rfl⟩:=I;have k:XL w O μ h (a.eval x) (.p (.fn f j)):=a2;generalize hv:a.eval x=v at k;cases k with
     |p _ _ K=>cases K with
      |fn _ _ cv hl H=>
       refine m (dH f) _ _ (Ox x args C ho f cv hv (W _ _ B)) (ay f ha ?_) B;refine XF.VS (by simpa using hl) fun i u y hu S=> ?_
       rw[ZA]at S;cases z:j[i]? with
       |none=>simp[z]at S
       |some l=>simp only[z,Z4,Za]at S;subst S;exact XL.p _ _ (H i l u z hu)
    ·rename_i f j Y I;simp only[ZJ]at I;obtain⟨rfl,rfl⟩:=I;have k:XL w O μ h (a.eval x) (.fn f j):=a2;generalize hv:a.eval x=v at k;cases k with
     |fn _ _ cv hl H=>
      refine m (dH f) _ _ (Ox x args C ho f cv hv (W _ _ B)) (ay f ha ?_) B;refine XF.VS (by simpa using hl) fun i u y hu S=> ?_
      rw[ZA]at S;cases z:j[i]? with
      |none=>simp[z]at S
      |some l=>simp only[z,Z4,Za]at S;subst S;exact H i l u z hu
    ·simp at B
   cases M with
   |invoke _ _=>simp at g
   |builtin b=>
    simp only at g;cases hb:XO P b C with
    |none=>simp[hb]at g
    |some op=>
     simp only[hb,Za,Zo]at g;obtain⟨rfl,rfl⟩:=g;exact iN (dw E F b C args o J op hb a.eval L (UR (fun p=>p) T a.eval N _ _ _ R hT) r B hn hI) hk
   |value x=>
    cases x with
    |func f=>
     simp only[Za,Zo]at g;obtain⟨rfl,rfl⟩:=g;simp only[X8]at B;exact m f _ L (jb (P:=P) (w:=w) (a:=a) args C f J (W f _ B)) (G L hT) B
    |tmp q=>
     simp only[Xy,Za,Zo]at g;exact U (.tmp q) (.t q) rfl g.1.symm g.2.symm J
    |const q=>
     simp only at g;cases hq:Xy (.const q)with
     |none=>simp[hq]at g
     |some q'=>
      simp only[hq,Za,Zo]at g;exact U (.const q) q' hq g.1.symm g.2.symm J
    |global q=>simp[Xy]at g
 ·exact iN (zH E F g T a.eval N L hT r B (fun f e=>s (.inl ⟨f,e⟩)) (fun e=>s (.inr e)) hn hI) hk
end
end Go.Ev
namespace Go.Ev
open Go.RowKit
theorem sU {a b:Type}:∀(l:List a) (n:Nat) (v:a) (k:List a->b),AY l n v k=k (l.set n v)
 |[],_,_,_=>rfl
 |_::_,0,_,_=>rfl
 |x::xs,n+1,v,k=>by simp only[AY];rw[sU xs n v];rfl
theorem uz {a b:Type}:∀(l m:List a) (k:List a->b),Cg l m k=k (l++m)
 |[],_,_=>rfl
 |x::xs,m,k=>by simp only[Cg];rw[uz xs m];rfl
theorem lA {a:Type}(n:Nat)(k:Nat->a):nZ n k=k n:=by cases n<;>rfl
theorem BL {a:Type}(n:Int)(k:Int->a):Dz n k=k n:=by cases n<;>simp[Dz,lA]
theorem ov {a:Type}(l:DL)(k:DL->a):tP l k=k l:=by
 unfold tP;split
 ·rw[BL]
 ·rename_i b;cases b<;>rfl
 ·simp[lA]
 ·simp[lA]
 ·rfl
theorem fR {a:Type}:∀(l:List DL) (k:List DL->a),dV l k=k l
 |[],_=>rfl
 |x::xs,k=>by simp only[dV];rw[ov,fR xs]
theorem NM {a:Type}(v:DV)(k:DV->a):AK v k=k v:=by
 cases v with
 |one l=>simp[AK,ov]
 |agg b=>simp[AK,fR]
 |XZ c=>rfl
theorem TR {b:Type}(T:List (Nat×DV))(a:Option Nat)(v:DV)(k:List (Nat×DV)->b):Bj T a v k=k (OS T a v):=by cases a<;>rfl
theorem aW {c:Type}:∀(a:List (Nat×Xz)) (H:List Xz) (k:List Xz->c),Fj H a k=k (VC H a)
 |[],_,_=>rfl
 |(id,b)::a,H,k=>by simp only[Fj,VC];rw[sU,aW a]
theorem gN {b:Type}(H a:List Xz)(k:List Xz->b):F0 H a k=k (Om H a):=by
 cases a with
 |nil=>rfl
 |cons x c=>simp only[F0,Om];rw[uz]
theorem gY (H:List Xz)(id:Nat)(b:Xz)(a:id<H.length):Xn (H.set id b)=fun x=>if x=id then some b else Xn H x:=by
 funext x;simp only[Xn,Y8];by_cases e:x=id
 ·subst e;simp[a]
 ·simp[e,Ne.symm e]
theorem mh:∀(a:List (Nat×Xz)) (H:List Xz),(∀q∈a,q.1<H.length)->Xn (VC H a)=TI (Xn H) a/\(VC H a).length=H.length
 |[],_,_=>⟨rfl,rfl⟩
 |(id,b)::a,H,hw=>by
  have c:=hw (id,b) (by simp);obtain⟨d,e⟩:=mh a (H.set id b) (fun q f=>by simpa using hw q (by simp[f]));refine⟨?_,by simp only[VC];rw[e];simp⟩;simp only[VC,TI];rw[d,gY H id b c]
theorem er:∀(a H:List Xz),Xn (H++a)=Ra (Xn H) H.length a
 |[],H=>by simp[Ra]
 |b::bs,H=>by
  have:=er bs (H++[b]);rw[Zq,Z5]at this;rw[this];simp only[Ra,Zk,ZR];congr 1;funext x;simp only[Xn,List.getElem?_append];by_cases e:x=H.length
  ·subst e;simp
  ·by_cases e2:x<H.length
   ·simp[e,e2]
   ·simp only[e,e2,if_false];rw[YB (by simp;omega),YB (by omega)]
theorem QJ (H a:List Xz):Om H a=H++a:=by cases a<;>simp[Om]
theorem ee (E:Xa)(m:Nat)(t:aT)(v:List DV)(h:HF)(n:Nat)(r:Vc)(a:X8 E m t v h n=some r):∀q∈r.wr,∃b,h q.1=some b:=by
 have j:∀f s,Vk E h f s=some r->∀q∈r.wr,∃b,h q.1=some b:=by
  intro f s i;unfold Vk at i;split at i
  ·split at i
   ·split at i
    ·simp only[YG]at i;split at i<;>simp only[Za]at i<;>subst i
     ·simp
     ·intro q c;obtain⟨id,_,l⟩:=List.mem_filterMap.1 c;cases d:h id with
      |none=>simp[d]at l
      |some b=>simp only[d,Z4,Za]at l;subst l;exact⟨b,d⟩
    ·simp at i
   ·simp at i
  ·simp at i
 cases t with
 |call f=>exact j f v a
 |TF=>
  simp only[X8,SA]at a;split at a
  ·exact j _ _ a
  ·exact j _ _ a
  ·simp at a
 |store u=>
  simp only[X8,RS]at a;split at a
  ·split at a
   ·rename_i b d;split at a
    ·simp only[QO]at a;obtain⟨_,a⟩:=X3 a;split at a
     ·obtain⟨_,rfl⟩:=Xv a;intro q c;simp at c;subst c;exact⟨b,d⟩
     ·simp at a
    ·simp at a
   ·simp at a
  ·simp at a
 |append e u bytes=>
  simp only[X8,W6]at a;split at a
  ·split at a
   ·obtain⟨_,a⟩:=X3 a;split at a
    ·simp only[WQ]at a;obtain⟨_,a⟩:=X3 a;split at a<;>simp only[Za]at a<;>subst a<;>simp
    ·split at a
     ·rename_i b d;rw[YG]at a;split at a
      ·simp only[U4]at a;obtain⟨_,rfl⟩:=Xv a;intro q c;simp at c;subst c;exact⟨b,d⟩
      ·simp only[S2]at a;obtain⟨_,rfl⟩:=Xv a;intro q c;simp at c;subst c;exact⟨b,d⟩
     ·simp at a
    ·simp at a
   ·simp at a
  ·simp at a
 |clear z=>
  simp only[X8,RU]at a;split at a
  ·split at a
   ·rename_i b d;obtain⟨_,rfl⟩:=Xv a;intro q c;simp at c;subst c;exact⟨b,d⟩
   ·simp at a
  ·simp at a
 |copy u=>
  simp only[X8,QZ]at a;split at a
  ·split at a
   ·rename_i b d;split at a
    ·simp only[Ob]at a;obtain⟨_,rfl⟩:=Xv a;intro q c;simp at c;subst c;exact⟨b,d⟩
    ·simp at a
   ·simp at a
  ·simp at a
 |lookup o k p z x=>
  have g:r.wr=[]:=by
   simp only[X8,UO,Nn,YG]at a
   (repeat' split at a)<;>simp only[Za,reduceCtorEq]at a<;>subst a<;>rfl
  rw[g];simp
 |mapUpdate o k p w=>
  simp only[X8,Vf]at a;split at a
  ·split at a
   ·rename_i b d;split at a
    ·obtain⟨_,a⟩:=X3 a;unfold eB at a;split at a<;>simp only[Za,reduceCtorEq]at a<;>subst a<;>(intro q c;simp at c;subst c;exact⟨b,d⟩)
    ·simp at a
   ·simp at a
  ·simp at a
 |_=>
  have g:r.wr=[]:=by
   simp only[X8,Nc,Sj,Nb,aj,RV,Q0,VN,QX,fE,Ng,VZ,Ul,fD,Nf,V6,Vv,SN,VR,UP,QY,RT,Sk,Qn,Nd,V5,Rx,UN,TA,Tb,Ql,YG]at a
   (repeat' split at a)<;>simp only[Za,reduceCtorEq]at a<;>subst a<;>rfl
  rw[g];simp
section
variable {lo:Nat}{P:Program}{O:BS}{w:World}{μ:Nat->Nat}{n:Nat}
theorem ga {A:Nat}{h:HF}{a:Act}{T:List (Nat×DV)}(k:Wu lo A O w μ h a T)(f:List Oper)(g:Option (Nat×Bool))(s:Option (Nat×Bool))(i:Ss f g=some s)(b:Bool)(e:UC T s=some b)(o:Oper)(t:o.guard=g):
  Region.wanted o (yielded f.toArray a.tmps)=b:=by
 cases g with
 |none=>
  simp only[Ss,Za]at i;subst i;simp only[UC,Za]at e;subst e;simp[Region.wanted,t]
 |some q=>
  obtain⟨j,v⟩:=q;simp only[Ss]at i;cases r:f[j]? with
  |none=>simp[r]at i
  |some x=>
  simp only[r]at i;cases p:x.dst with
  |none=>simp[p]at i
  |some d=>
  simp only[p,Za]at i;subst i;simp only[UC]at e;have z:yielded f.toArray a.tmps j=match a.tmps[d]? with |some (.bool c)=>some c|_=>none:=by
   simp[yielded,r,p];rfl
  simp only[Region.wanted,t,z];split at e
  ·rename_i c n;simp only[Za]at e;subst e;have:=(k.slot d _ n).SU;rw[ZN]at this;cases l:a.tmps[d]? with
   |none=>rw[l]at this;simp[undef]at this
   |some u=>rw[l]at this;simp at this;subst this;simp
  ·rename_i n;simp only[Za]at e;subst e;obtain⟨B,m,y⟩:=k.slot d _ n;cases y;rw[ZN]at m;cases l:a.tmps[d]? with
   |none=>simp
   |some u=>rw[l]at m;simp at m;subst m;simp
  ·simp at e
theorem bY (E:Xa)(hE:Wq P E)(C:Nat)(heap:Bool){nt:Nat}(L:List Oper){o:Oper}{xo:Xw}(Y:Uo P nt L o=some xo){a:Act}{s s':St}{rd wr:List Nat}
  (k:W3 E C heap xo s=some (s',rd,wr)) (hI:X0 w O μ (Xn s.H)) (A:Wu lo nt O w μ (Xn s.H) a s.T) {next:Act->World->Prop} {Q:Exit->Act->World->Prop}
  (hk:∀a' w' B,X0 w' O B (Xn s'.H)->Wu lo nt O w' B (Xn s'.H) a' s'.T->WD O w μ (Xn s.H) w' B (Xn s'.H)->next a' w'):
  (Region.wanted o (yielded L.toArray a.tmps)=true/\o.wp P a w next Q)\/(Region.wanted o (yielded L.toArray a.tmps)=false/\next (a.put o.dst undef) w):=by
 unfold Uo at Y;cases h:XR P o.op with
 |none=>simp[h]at Y
 |some q=>
 obtain⟨op,args⟩:=q;simp only[h]at Y;cases hg:Ss L o.guard with
 |none=>simp[hg]at Y
 |some g=>
 simp only[hg]at Y;split at Y<;>simp only[Za,reduceCtorEq]at Y;rename_i G;subst Y;unfold W3 at k;simp only at k;cases V:UC s.T g with
 |none=>simp[V]at k
 |some b=>
 have K:=ga A L o.guard g hg b V o rfl;cases b with
 |false=>
  simp only[V,TR,Za,Zo]at k;obtain⟨rfl,_,_⟩:=k;right;exact⟨K,hk _ w μ hI (A.put o.dst G undef (.XZ []) ⟨[],rfl,.nil⟩) (WD.refl _ _ _ _)⟩
 |true=>
  simp only[V]at k;left;refine⟨K,?_⟩;cases hT:Xt (W8.eval s.T) args with
  |none=>simp[hT]at k
  |some N=>
  simp only[hT]at k;cases hh:(heap&&XK E op N)with
  |false=>
   simp only[hh,cond_false]at k;cases U:X8 E C op N (Xn s.H) s.H.length with
   |none=>simp[U]at k
   |some r=>
   simp only[U,Qv,NM,TR,aW,gN,Za,Zo]at k;obtain⟨rfl,_,_⟩:=k;have b3:=ee E C op N _ _ r U;obtain⟨b1,b2⟩:=mh r.wr s.H (fun q hq=>by
    obtain⟨b,S⟩:=b3 q hq;simp only[Xn]at S;exact(Zb.1 S).1)
   have hH:Xn (Om (VC s.H r.wr) r.al)=sE (Xn s.H) s.H.length r:=by
    rw[QJ,er,b1,b2];rfl
   refine uf E hE C h A N hT r U (fun _=>by simp[Xn]) hI fun v w' B h1 h2 h3=> ?_
   rw[<-hH]at h1 h2 h3;exact hk _ w' B h2 ((A.mono h3).put o.dst G v r.val h1) h3
  |true=>
   simp only[hh,cond_true,Qt]at k;rw[Zs]at hh;have a0:∀(f:Nat) (vs:List Value) (dv:List DV),(mz P f->(execOp a.eval o).run P w=.ok (.enter f vs.toArray) w)->XF (XB w O μ (Xn s.H)) vs dv->W7 E o.dst f dv s=some (s',rd,wr)->o.wp P a w next Q:=by
    intro f vs dv a5 a2 k;unfold W7 at k;cases hm:E.mode f with
    |pure=>simp[hm]at k
    |heap=>
     simp only[hm]at k;cases I:E.heap f dv s.H with
     |none=>simp[I]at k
     |some q=>
     obtain⟨v,H2⟩:=q;simp only[I,TR,Za,Zo]at k;obtain⟨rfl,_,_⟩:=k;obtain⟨a9,a4⟩:=hE.heap f dv s.H v H2 I;unfold Oper.wp;rw[a5 a4,Oper.upon_enter];refine(a9 w O μ _ hI a2).mono fun e w' ⟨u,B,I,h1,h2,h3⟩=> ?_
     subst I;exact hk _ w' B h2 ((A.mono h3).put o.dst G u v h1) h3
   have a6:Rg op=true:=by
    have:=hh.2;unfold XK at this;split at this
    ·rfl
    ·rfl
    ·simp at this
   obtain⟨c,W⟩:=du h a6;obtain⟨R,j,M⟩:=c;rw[W]at h;simp only[XR]at h;cases a1:QA j with
   |none=>simp[a1]at h
   |some xs=>
   simp only[a1]at h;have D:∀N,Xt (W8.eval s.T) xs=some N->XF (XB w O μ (Xn s.H)) (j.toList.map a.eval) N:=fun N b0=>pP a.eval (UR (fun p=>p) s.T a.eval (fun x xo d=>A.eval x xo d) _ _ _ a1 b0)
   have Z:∀x x',Xy x=some x'->op=.TF->args=x'::xs->o.op=.call ⟨.value x,j,M⟩->o.wp P a w next Q:=by
    intro x x' hx b5 b4 ho;subst b5;subst b4;obtain⟨d,a8,hd,a3,rfl⟩:=map_cons hT;have a7:=A.eval _ _ _ hx hd;have ha:=D a8 a3;simp only at k;split at k
    ·rename_i f m vs J;simp only[ZJ]at J;obtain⟨rfl,rfl⟩:=J;have n:XL w O μ (Xn s.H) (a.eval x) (.p (.fn f m)):=a7;generalize hv:a.eval x=v at n;cases n with
     |p _ _ hp=>cases hp with
      |fn _ _ cv hl F=>
       refine a0 (dH f) _ _ (fun I=>Ox x j M ho f cv hv I) (ay f ha ?_) k;refine XF.VS (by simpa using hl) fun i u y hu X=> ?_
       rw[ZA]at X;cases z:m[i]? with
       |none=>simp[z]at X
       |some l=>simp only[z,Z4,Za]at X;subst X;exact XL.p _ _ (F i l u z hu)
    ·rename_i f m vs J;simp only[ZJ]at J;obtain⟨rfl,rfl⟩:=J;have n:XL w O μ (Xn s.H) (a.eval x) (.fn f m):=a7;generalize hv:a.eval x=v at n;cases n with
     |fn _ _ cv hl F=>
       refine a0 (dH f) _ _ (fun I=>Ox x j M ho f cv hv I) (ay f ha ?_) k;refine XF.VS (by simpa using hl) fun i u y hu X=> ?_
       rw[ZA]at X;cases z:m[i]? with
       |none=>simp[z]at X
       |some l=>simp only[z,Z4,Za]at X;subst X;exact F i l u z hu
    ·simp at k
   cases R with
   |invoke _ _=>simp at h
   |builtin b=>
    simp only at h;cases S:XO P b M with
    |none=>simp[S]at h
    |some b6=>
     simp only[S,Za,Zo]at h;obtain⟨rfl,_⟩:=h;exfalso;unfold XO at S
     (repeat' split at S)<;>simp only[Za,reduceCtorEq]at S<;>subst S<;>simp[Rg]at a6
   |value x=>
    cases x with
    |func g=>
     simp only[Za,Zo]at h;obtain⟨rfl,rfl⟩:=h;exact a0 g _ N (fun I=>jb j M g W I) (D N hT) k
    |tmp q=>
     simp only[Xy,Za,Zo]at h;exact Z (.tmp q) (.t q) rfl h.1.symm h.2.symm W
    |const q=>
     simp only at h;cases hq:Xy (.const q)with
     |none=>simp[hq]at h
     |some q'=>
      simp only[hq,Za,Zo]at h;exact Z (.const q) q' hq h.1.symm h.2.symm W
    |global q=>simp[Xy]at h
def VY (F:Fence):Prop:=F=Fence.wide\/∃l,F=Fence.wide.inRound l
theorem VY.fn {F:Fence}(a:VY F)(f:FuncId):F.fn f:=by rcases a with rfl|⟨l,rfl⟩<;>trivial
theorem VY.depth {F:Fence}(a:VY F):F.depth.isSome=false:=by rcases a with rfl|⟨l,rfl⟩<;>rfl
theorem VY.calls {F:Fence}(a:VY F){n:Nat}{f:FuncId}{args:Array Value}{w:World}{R:Ending->World->Prop}(h:Calls P f args w R):CallsIn F n P f args w R:=by
 rcases a with rfl|⟨l,rfl⟩
 ·exact callsIn_wide.2 h
 ·exact CallsIn.inRound l (callsIn_wide.2 h)
theorem VY.rows {F:Fence}(d:VY F){n:Nat}{a:String}{args:Array Value}{w:World}{R:Value->World->Prop}(h:Rows P a args w R):RowsIn F n P a args w R:=by
 intro c b _;obtain⟨v,w',r,s⟩:=h c b;rcases d with rfl|⟨l,rfl⟩
 ·exact⟨v,w',r,stepsIn_wide.2 s⟩
 ·exact⟨v,w',r,stepsIn_wide.2 s⟩
theorem TY {a:Op}{q:aT×List W8}(h:XR P a=some q):∀c,a≠.defer c:=by
 intro c e;subst e;simp[XR]at h
theorem ai {F:Fence}(b:VY F){n:Nat}{o:Oper}{a:Act}{next:Act->World->Prop}{Q:Exit->Act->World->Prop}(d:∀c,o.op≠.defer c)(h:o.wp P a w next Q):o.wpIn F n P a w next Q:=by
 refine⟨fun f _=>b.fn f,?_⟩;rw[Oper.semAt_eq _ _ _ d];unfold Oper.wp at h;generalize (execOp a.eval o).run P w=r at h⊢;cases r with
 |ok e w'=>cases e with
  |enter f args=>exact⟨by rw[b.depth];simp,b.calls h⟩
  |row r args=>exact⟨by rw[b.depth];simp,b.rows h⟩
  |round l f tmps as g=>exact absurd h (fun h=>h)
  |_=>exact h
 |halt x w'=>cases x<;>exact h
theorem gw (E:Xa)(z:Wq P E){F:Fence}(r:VY F)(n b:Nat){nt:Nat}(d:List Oper){Q:Exit->Act->World->Prop}:∀(l:List Oper) (p:List Xw),Xt (Uo P nt d) l=some p->∀(s g:St) (a:Act) (w:World) (μ:Nat->Nat),V9 E b p s=some g->
  X0 w O μ (Xn s.H)->Wu lo nt O w μ (Xn s.H) a s.T->
  (∀m w' e,X0 w' O e (Xn g.H)->Wu lo nt O w' e (Xn g.H) m g.T->WD O w μ (Xn s.H) w' e (Xn g.H)->Q .normal m w')->wpListIn F n P d.toArray Q l a w
 |[],p,hx,s,g,a,w,μ,hr,hI,hsl,hk=>by
  rw[dF hx]at hr;simp only[V9,Za]at hr;subst hr;exact hk a w μ hI hsl (WD.refl _ _ _ _)
 |o::l,p,hx,s,g,a,w,μ,hr,hI,hsl,hk=>by
  obtain⟨K,x,h,v,rfl⟩:=map_cons hx;simp only[V9]at hr;cases t:W3 E b true K s with
  |none=>simp[t]at hr
  |some q=>
  obtain⟨I,L,M⟩:=q;simp only[t]at hr;have:=bY (O:=O) (w:=w) (μ:=μ) E z b true d h t hI hsl (next:=wpListIn F n P d.toArray Q l) (Q:=Q) fun m w' e i j G=>
   gw E z r n b d l x v I g m w' e hr i j fun A J y B C D=>hk A J y B C (G.trans D)
  have u:∀c,o.op≠.defer c:=by
   unfold Uo at h;cases k:XR P o.op with
   |none=>simp[k]at h
   |some q=>exact TY k
  unfold wpListIn;rcases this with⟨i,j⟩|⟨i,j⟩
  ·rw[if_pos i];exact ai r u j
  ·rw[if_neg (by rw[i];simp)];exact⟨fun f _=>r.fn f,j⟩
end
end Go.Ev
namespace Go.Ev
open Go.RowKit
section
variable {lo:Nat}{P:Program}{O:BS}{w w':World}{μ:Nat->Nat}{h:HF}
structure UZ (w w':World):Prop where
 size:w.heap.size<=w'.heap.size
 cells:∀(b:Nat) (C:Array Value) (T:TypeId) (z:Nat×Nat),w.heap[b]? =some (.cells C T z)->w'.heap[b]? =some (.cells C T z)
 maps:∀(b:Nat) (es:Array MapEntry) (clk:Nat),w.heap[b]? =some (.map es clk)->w'.heap[b]? =some (.map es clk)
 FX:∀(b:Nat) (o:Obj),w.heap[b]? =some o->iK o->∃o',w'.heap[b]? =some o'/\iK o'
theorem UZ.cell (s:UZ w w'){a:Addr}{v:Value}(b:w.cell? a=some v):w'.cell? a=some v:=by
 unfold World.cell? at b⊢;cases c:w.heap[a.block]? with
 |none=>simp[c]at b
 |some o=>
  cases o with
  |cells C T z=>rw[c]at b;rw[s.cells _ C T z c];exact b
  |_=>simp[c]at b
theorem Wt.same (s:UZ w w'){L:BS}{v:Value}{l:PL}(r:Wt w L v l):Wt w' L v l:=by
 induction r with
 |bool b=>exact .bool b
 |int a n=>exact .int a n
 |XC=>exact .XC
 |str x=>exact .str x
 |RB v h=>exact .RB v h
 |fn f k A D p o=>exact .fn f k A D o
 |ref b g z e u p E o=>exact .ref b g z e u (fun j d t=>s.cell (p j d t)) o
 |Xp b g G q B e u m F p E y o=>exact .Xp b g G q B e u m F (fun i c j d C t=>s.cell (p i c j d C t)) o y
theorem XL.same (s:UZ w w'){v:Value}{l:DL}(r:XL w O μ h v l):XL w' O μ h v l:=by
 induction r with
 |p v l A=>exact .p v l (A.same s)
 |own id XX a q b g o j d n k m=>
  refine .own id XX a q b g o j d n k fun e=> ?_
  obtain⟨u,C,T,x,y⟩:=m e;exact⟨u,C,T,s.cells _ _ _ _ x,y⟩
 |ptr id XX i a b g o d n m=>exact .ptr id XX i a b g o d n m
 |fn f c t k D B=>exact .fn f c t k B
 |mp id b d z=>exact .mp id b d z
theorem VJ.same (s:UZ w w'){v:Value}{d:DV}(r:VJ w O μ h v d):VJ w' O μ h v d:=by
 cases d with
 |one l=>exact XL.same s r
 |agg e=>obtain⟨c,b,a⟩:=r;exact⟨c,b,a.imp fun _ _=>XL.same s⟩
 |XZ f=>exact r
theorem XB.same (s:UZ w w'){v:Value}{d:DV}(r:XB w O μ h v d):XB w' O μ h v d:=by
 cases d with
 |one l=>exact VJ.same (d:=.one l) s r
 |agg a=>exact VJ.same (d:=.agg a) s r
 |XZ f=>obtain⟨e,c,b⟩:=r;exact⟨e,c,b.imp fun _ _=>VJ.same s⟩
theorem WJ.same (s:UZ w w'){id:Nat}{b:Xz}(a:WJ w O μ h id b):WJ w' O μ h id b:=by
 unfold WJ at a⊢;cases n:b.mp
 ·rw[n]at a;simp only[Zz,if_false]at a⊢;obtain⟨C,g,B,l⟩:=a;refine⟨C,s.cells _ _ _ _ g,B,fun i c m=>⟨(l i c m).1,fun j d A=> ?_⟩⟩;obtain⟨v,k,E⟩:=(l i c m).2 j d A;exact⟨v,k,E.same s⟩
 ·rw[n]at a;simp only[if_true]at a⊢;cases e:Nat.beq b.ty 2
  case true=>
   rw[e,if_pos rfl]at a;rw[if_pos rfl];obtain⟨o,D,z⟩:=a;exact s.FX _ o D z
  rw[e,if_neg (by simp)]at a;rw[if_neg (by simp)];obtain⟨p,f,g,k,y⟩:=a;exact⟨p,f,s.maps _ _ _ g,k,y.imp fun x c ⟨F,G,q,r,t,u⟩=>⟨F,G,q,r,t,u.imp fun _ _=>XL.same s⟩⟩
theorem X0.same (s:UZ w w')(a:X0 w O μ h):X0 w' O μ h:=
 ⟨fun id b c=>(a.QG id b c).same s,a.inj,a.Nt,fun b c=>Z2 (a.lt b c) s.size⟩
theorem UJ {l:Nat}{o:Obj}(d:w.heap[l]? =some o)(g:iK o){o':Obj}(c:iK o'):UZ w (w.putObj l o'):=by
 have f:l<w.heap.size:=(Ya.1 d).1;refine⟨by simp[World.putObj],fun b C T z a=> ?_,fun b j h a=> ?_,fun b x a i=> ?_⟩
 ·have :b≠l:=fun e=>by rw[e,d]at a;cases a;exact g.1 _ _ _ rfl
  rw[World.putObj_heap_other this];exact a
 ·have :b≠l:=fun e=>by rw[e,d]at a;cases a;exact g.2 _ _ rfl
  rw[World.putObj_heap_other this];exact a
 ·by_cases e:b=l
  ·subst e;exact⟨o',World.putObj_heap_same f,c⟩
  ·exact⟨x,by rw[World.putObj_heap_other e];exact a,i⟩
theorem TB {W:World}{d:Nat->Nat}{f:HF}(g:X0 w O μ h)(m:WD O w μ h W d f){l:Nat}(x:w.heap.size<=l)(i:Obj):WD O w μ h (W.putObj l i) d f:=by
 have c:∀b,b<w.heap.size->(W.putObj l i).heap[b]? =W.heap[b]? :=fun b a=>World.putObj_heap_other (fun e=>by omega)
 refine⟨m.os,m.tape,m.output,⟨by simp only[World.putObj,Array.size_setIfInBounds];exact m.keeps.size,fun b a v=>(c b a).trans (m.keeps.VW b a v),m.keeps.live⟩,fun b a=>(c b (g.lt b a)).trans (m.jn b a),fun id b a=> ?_,m.maps⟩;obtain⟨k,q,r,s,t⟩:=m.ids id b a;refine⟨k,q,r,s,fun e=> ?_⟩;obtain⟨n,o,p⟩:=t e;refine⟨n,o,fun C T u=> ?_⟩;obtain⟨j,y,z⟩:=p C T u;exact⟨j,(c _ (g.lt_size a)).trans y,z⟩
theorem Wu.same {i:Nat}{a:Act}{T:List (Nat×DV)}(s:Wu lo i O w μ h a T){l:Nat}{o:Obj}(g:w.heap[l]? =some o)(q:iK o)(f:∀x,o≠.deferred x){j:Obj}(b:iK j):Wu lo i O (w.putObj l j) μ h a T:=by
 have k:=UJ g q b;refine⟨⟨Zy s.jR.1 k.size,s.jR.2.1,fun d b=> ?_⟩,s.sz,fun t d r=>(s.slot t d r).same k⟩;obtain⟨D,m,n,c,p⟩:=s.jR.2.2 d b;refine⟨D,m,n,?_,p⟩;have :D≠l:=fun e=>by rw[e,g]at c;cases c;exact f _ rfl
 rw[World.putObj_heap_other this];exact c
end
end Go.Ev
