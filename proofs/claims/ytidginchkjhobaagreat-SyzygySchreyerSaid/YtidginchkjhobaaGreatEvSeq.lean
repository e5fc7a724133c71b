/- Slots; one operation under the model's weakest preconditions; regions in the order of the text. -/
import Derived.Test.YtidginchkjhobaaGreatEvOpSim
import Derived.RangeFuncSeq
import Derived.OrdersIn
import Derived.TacticsIn
import Derived.LoopNIn
import Derived.RangeFuncCalls
import Derived.RangeFuncLeaves
namespace Go.Ev
open Go.RowKit
section
variable {lo:Nat}{P:Program}{O:BS}{w:World}{μ:Nat->Nat}{h:HF}{n:Nat}
def wS (D:Nat):Deferred:={target:=.collected D,args:=#[]}
def Marks (lo:Nat)(O:BS)(w:World)(μ:Nat->Nat)(h:HF)(ds:List Deferred):Prop:=
 lo<=w.heap.size/\ds.Pairwise (fun x y=>x.target≠y.target)/\∀d∈ds,∃D,d=wS D/\lo<=D/\w.heap[D]? =some (.deferred (some []))/\¬Live O μ h D
theorem Marks.mono {lo:Nat}{w':World}{a:Nat->Nat}{e:HF}{c:List Deferred}(s:Marks lo O w μ h c)(m:Wy O w μ h w' a e):Marks lo O w' a e c:=by
 refine⟨Zx s.1 m.keeps.size,s.2.1,fun d k=> ?_⟩;obtain⟨D,i,j,f,g⟩:=s.2.2 d k;have b:D<w.heap.size:=(Ya.1 f).1;refine⟨D,i,j,(m.keeps.VM D b g).trans f,fun l=> ?_⟩;rcases m.keeps.live D l with h|h
 ·exact g h
 ·omega
structure Wz (lo nt:Nat)(O:BS)(w:World)(μ:Nat->Nat)(h:HF)(a:Act)(T:List (Nat×DV)):Prop where
 nb:Marks lo O w μ h a.defers
 sz:a.tmps.size=nt
 slot:∀t d,Xh T t=some d->XA w O μ h (a.tmps.getD t undef) d
theorem Wz.mono {e:Nat}{w':World}{b:Nat->Nat}{c:HF}{a:Act}{T:List (Nat×DV)}(s:Wz lo e O w μ h a T)(m:Wy O w μ h w' b c):Wz lo e O w' b c a T:=
 ⟨s.nb.mono m,s.sz,fun t d f=>(s.slot t d f).mono m⟩
theorem UR (t:Nat)(v:DV)(T:List (Nat×DV))(k:Nat):Xh ((t,v)::T) k=if t=k then some v else Xh T k:=by
 simp only[Xh];by_cases e:t=k
 ·subst e;simp[YA]
 ·rw[if_neg e];have :Nat.beq t k=false:=by
   cases a:Nat.beq t k
   ·rfl
   ·exact absurd (Zl a) e
  rw[this];rfl
theorem Wz.put {f:Nat}{a:Act}{T:List (Nat×DV)}(s:Wz lo f O w μ h a T)(b:Option Nat)(i:Od f b=true)(v:Value)(d:DV)(k:XA w O μ h v d):Wz lo f O w μ h (a.put b v) (OD T b d):=by
 cases b with
 |none=>exact s
 |some q=>
  have j:q<f:=Qy i;refine⟨s.nb,by simp[Act.put,s.sz],fun t g c=> ?_⟩;simp only[OD,UR]at c;simp only[Act.put];by_cases e:q=t
  ·subst e;rw[if_pos rfl]at c;cases c;have :(a.tmps.setIfInBounds q v).getD q undef=v:=by
    rw[Yc,Array.getElem?_setIfInBounds_self_of_lt (by rw[s.sz];exact j)];rfl
   rw[this];exact k
  ·rw[if_neg e]at c;have :(a.tmps.setIfInBounds q v).getD t undef=a.tmps.getD t undef:=by
    rw[Yc,Array.getElem?_setIfInBounds_ne e,Yc]
   rw[this];exact s.slot t g c
theorem Ck {v:Value}{p:PV}(a:E7 v=some p):XA w O μ h v (inj p):=by
 unfold E7 at a;split at a
 ·rename_i c;cases b:Xv kL c.toList with
  |none=>simp[b]at a
  |some j=>
  simp only[b,Za]at a;subst a;refine⟨c.toList,by simp,?_⟩;have:=Pj (R:=fun v l=>kL v=some l) (fun _ _ e=>e) b;generalize c.toList=d at this;clear b;induction this with
  |nil=>exact .nil
  |cons g _ i=>exact .cons (.p _ _ (jc g _)) i
 ·rename_i d;split at a<;>simp only[Za,reduceCtorEq]at a;subst a;rename_i f;have :d=#[]:=by simpa using f
  subst this;exact⟨[],rfl,.nil⟩
 ·cases b:kL v with
  |none=>simp[b]at a
  |some l=>
  simp only[b,Za]at a;subst a;exact XE.p _ _ (jc b _)
theorem Wz.eval {m:Nat}{a:Act}{T:List (Nat×DV)}(s:Wz lo m O w μ h a T)(x:Operand)(j:Vs)(d:DV)(b:Xz x=some j)(c:j.eval T=some d):XA w O μ h (a.eval x) d:=by
 cases x with
 |tmp t=>simp only[Xz,Za]at b;subst b;exact s.slot t d c
 |const v=>
  simp only[Xz]at b;cases e:E7 v with
  |none=>simp[e]at b
  |some p=>
  simp only[e,Za]at b;subst b;simp only[Vs.eval,Za]at c;subst c;exact Ck e
 |global g=>simp[Xz]at b
 |func f=>
  simp only[Xz]at b;split at b<;>simp only[Za,reduceCtorEq]at b;rename_i k;subst b;simp only[Vs.eval,Za]at c;subst c;have:=Ws.fn (w:=w) (O:=Live O μ h) f [] [] rfl fun i d v l=>by simp at l
  rw[mL k]at this;exact XE.p _ _ this
def pT (P:Program)(f:Nat):Prop:=∀(args:Array Value) (w:World),(callFunc f args).run P w=.ok (.enter f args) w
theorem dY {f : FuncId} {fn : Func} {c : Code} (hf : P.funcs[f]? = some fn) (hname : (fn.name == "runtime.NumGoroutine") = false) (hb : fn.body = some c) : pT P f := by
 intro args w;have h1 : fn.name ≠ "runtime.NumGoroutine" := by simpa using hname
 simp[callFunc,hf,h1,hb,mark]
def RX:cH->Bool
 | .call _=>true
 | .Sd=>true
 |_=>false
theorem fj {f:Op}{e:cH}{b:List Vs}(a:XU P f=some (e,b))(d:RX e=true):∃c,f=.call c:=by
 cases f with
 |call c=>exact⟨c,rfl⟩
 |makeFunc h first g=>
  cases h<;>simp only[XU]at a<;>(repeat' split at a)<;>simp only[Za,Zp,reduceCtorEq]at a<;>(try(obtain⟨rfl,rfl⟩:=a;simp[RX]at d))
 |makeMap t k=>cases k<;>simp only[XU]at a<;>(repeat' split at a)<;>simp only[Za,Zp,reduceCtorEq]at a<;>(try(obtain⟨rfl,rfl⟩:=a;simp[RX]at d))
 |slice t x lo i j=>
  cases j with
  |none=>simp only[XU]at a<;>(repeat' split at a)<;>simp only[Za,Zp,reduceCtorEq]at a<;>(try(obtain⟨rfl,rfl⟩:=a;simp[RX]at d))
  |some m=>
   cases lo with
   |none=>simp[XU]at a
   |some l=>
   cases i with
   |none=>simp[XU]at a
   |some u=>simp only[XU]at a<;>(repeat' split at a)<;>simp only[Za,Zp,reduceCtorEq]at a<;>(try(obtain⟨rfl,rfl⟩:=a;simp[RX]at d))
 |_=>simp only[XU]at a<;>(repeat' split at a)<;>simp only[Za,Zp,reduceCtorEq]at a<;>(try(obtain⟨rfl,rfl⟩:=a;simp[RX]at d))
def vP (P:Program)(f:Nat)(caps:N')(xss:List (List PV)):Prop:=
 ∀(l:Nat) (cv:List Value) (J:Nat->World->Prop) (Jx:World->Prop),
  (∀i W,J i W->∃L:BS,XB (Ws W L) cv caps)->
  (∀i W xs vs,J i W->xss[i]? =some xs->XB (fun v x=>∀L μ h,XA W L μ h v (inj x)) vs xs->YieldAt Fence.wide 0 P l vs.toArray W fun e W'=>(e=.returned (.bool true)/\J (i+1) W')\/(e=.returned (.bool false)/\Jx W'))->
  ∀W,J 0 W->CallsIn Fence.wide 0 P f (#[.func (.yield l) #[] #[]]++cv.toArray) W fun e W'=>(∃v,e=.returned v)/\(J xss.length W'\/Jx W')
structure Ww (P:Program)(E:Xa):Prop where
 pure:∀f ps r,E.pure f ps=some r->CC P f ps r/\pT P f
 heap:∀f args H d H',E.heap f args H=some (d,H')->CH P f args H d H'/\pT P f
 iter:∀f caps xss,E.iter f caps=some xss->vP P f caps xss/\pT P f
theorem kX {a:Act}{o:Oper}{r:Va}{next:Act->World->Prop}{Q:Exit->Act->World->Prop}(i:V0 O w μ h n ((execOp a.eval o).run P w) r)
  (g:∀v w' c,XA w' O c (pL h n r) v r.val->X3 w' O c (pL h n r)->Wy O w μ h w' c (pL h n r)->next (a.put o.dst v) w'):o.wp P a w next Q:=by
 obtain⟨v,w',c,b,d,e,f⟩:=i;unfold Oper.wp;rcases b with b|⟨b,rfl⟩
 ·rw[b];exact g v w' c d e f
 ·rw[b];exact g _ w' c d e f
theorem tA {c d:Type}{R:Value->d->Prop}(g:c->Value){a:List c}{b:List d}(f:XB (fun x y=>R (g x) y) a b):XB R (a.map g) b:=by
 induction f with
 |nil=>exact .nil
 |cons e _ h=>exact .cons e h
theorem lJ {a:Act}{o:Oper}(args:Array Operand)(b:Array TypeId)(f:Nat)(d:o.op=.call ⟨.value (.func f),args,b⟩)(c:pT P f):
  (execOp a.eval o).run P w=.ok (.enter f (args.toList.map a.eval).toArray) w:=by
 have e1:∀(q:Array Value),(callFunc f q).run P w=.ok (.enter f q) w:=fun q=>c q w
 have e:a.eval (.func f)=.func (.func f) #[] #[]:=rfl;simp only[execOp,d,resolve,Deferred.ofValue,e,Sem.run_bind,Sem.run_pure,Result.andThen_ok,invoke,e1];congr 2;apply Array.ext';simp
theorem Nu {a:Act}{o:Oper}(x:Operand)(args:Array Operand)(e:Array TypeId)(h:o.op=.call ⟨.value x,args,e⟩)(f:Nat)(g:List Value)(d:a.eval x=zX f g)(i:pT P (fI f)):
  (execOp a.eval o).run P w=.ok (.enter (fI f) (vw f (args.toList.map a.eval) g).toArray) w:=by
 have e1:∀(q:Array Value),(callFunc (fI f) q).run P w=.ok (.enter (fI f) q) w:=fun q=>i q w
 cases b:Nat.blt f aM with
 |true=>
  rw[mL b]at d;have c:fI f=f:=by simp only[fI,b,cond_true]
  rw[c]at e1;simp only[execOp,h,resolve,Deferred.ofValue,d,Sem.run_bind,Sem.run_pure,Result.andThen_ok,invoke,e1,c,vw,b,cond_true];congr 2;apply Array.ext';simp
 |false=>
  rw[Gr b]at d;have c:fI f=f-aM:=by simp only[fI,b,cond_false]
  rw[c]at e1;simp only[execOp,h,resolve,Deferred.ofValue,d,Sem.run_bind,Sem.run_pure,Result.andThen_ok,invoke,e1,c,vw,b,cond_false];congr 2;apply Array.ext';simp
theorem bV {h i:Type}{R:h->i->Prop}(f:Nat){g b:List h}{c a:List i}(d:XB R g c)(e:XB R b a):XB R (vw f g b) (vw f c a):=by
 unfold vw;cases Nat.blt f aM with
 |true=>exact d.append e
 |false=>exact e.append d
theorem xE (E:Xa)(hE:Ww P E)(G:Nat){o:Oper}{D:cH}{A:List Vs}(g:XU P o.op=some (D,A)){nt:Nat}{a:Act}{T:List (Nat×DV)}(a7:Wz lo nt O w μ h a T)(M:X')
  (hT:Xv (Vs.eval T) A=some M) (r:Va) (B:We E G D M h n=some r) (hn:r.al≠[]->h n=none) (hI:X3 w O μ h) {next:Act->World->Prop} {Q:Exit->Act->World->Prop}
  (hk:∀v w' Y,XA w' O Y (pL h n r) v r.val->X3 w' O Y (pL h n r)->Wy O w μ h w' Y (pL h n r)->next (a.put o.dst v) w'):o.wp P a w next Q:=by
 have R:=fun x xo d=>a7.eval x xo d
 have m:∀(f:Nat) (Z:List Value) (W:X'),(execOp a.eval o).run P w=.ok (.enter f Z.toArray) w->XB (XA w O μ h) Z W->VB E h f W=some r->o.wp P a w next Q:=by
  intro f Z W a2 a0 F;unfold Oper.wp;rw[a2,Oper.upon_enter];refine(Ap (n:=n) E f (fun ps r' h'=>(hE.pure f ps r' h').1) (fun as H d H' h'=>(hE.heap f as H d H' h').1) Z W a0 r F hI).mono fun e w' ⟨v,he,h1,h2,h3⟩=> ?_
  subst he;exact hk v w' μ h1 h2 h3
 have X:∀f W,VB E h f W=some r->pT P f:=by
  intro f W F;unfold VB at F;split at F
  ·split at F
   ·split at F
    ·rename_i ps _ r' a6;exact(hE.pure f _ _ a6).2
    ·simp at F
   ·simp at F
  ·simp at F
  ·obtain⟨as,H,d,H',hh⟩:=yd F;exact(hE.heap f as H d H' hh).2
 by_cases s:(∃f,D=.call f)\/D=.Sd
 ·have a8:RX D=true:=by
   rcases s with⟨f,rfl⟩|rfl<;>rfl
  obtain⟨c,L⟩:=fj g a8
  ·obtain⟨N,args,C⟩:=c;simp only[XU,L]at g;cases S:Pu args with
   |none=>simp[S]at g
   |some xs=>
   simp only[S]at g;have I:∀M,Xv (Vs.eval T) xs=some M->XB (XA w O μ h) (args.toList.map a.eval) M:=fun M a5=>tA a.eval (Tb (fun p=>p) T a.eval R _ _ _ S a5)
   have V:∀x x',Xz x=some x'->D=.Sd->A=x'::xs->o.op=.call ⟨.value x,args,C⟩->o.wp P a w next Q:=by
    intro x x' hx b0 a9 ho;subst b0;subst a9;obtain⟨d,a4,hd,a1,rfl⟩:=map_cons hT;have a3:=R _ _ _ hx hd;have ha:=I a4 a1;simp only[We]at B;unfold Rc at B;split at B
    ·rename_i f j Z K;simp only[ZH]at K;obtain⟨rfl,rfl⟩:=K;have k:XE w O μ h (a.eval x) (.p (.fn f j)):=a3;generalize hv:a.eval x=v at k;cases k with
     |p _ _ F=>cases F with
      |fn _ _ cv hl J=>
       refine m (fI f) _ _ (Nu x args C ho f cv hv (X _ _ B)) (bV f ha ?_) B;refine XB.Uj (by simpa using hl) fun i u y hu U=> ?_
       rw[ZD]at U;cases z:j[i]? with
       |none=>simp[z]at U
       |some l=>simp only[z,Z6,Za]at U;subst U;exact XE.p _ _ (J i l u z hu)
    ·rename_i f j Z K;simp only[ZH]at K;obtain⟨rfl,rfl⟩:=K;have k:XE w O μ h (a.eval x) (.fn f j):=a3;generalize hv:a.eval x=v at k;cases k with
     |fn _ _ cv hl J=>
      refine m (fI f) _ _ (Nu x args C ho f cv hv (X _ _ B)) (bV f ha ?_) B;refine XB.Uj (by simpa using hl) fun i u y hu U=> ?_
      rw[ZD]at U;cases z:j[i]? with
      |none=>simp[z]at U
      |some l=>simp only[z,Z6,Za]at U;subst U;exact J i l u z hu
    ·simp at B
   cases N with
   |invoke _ _=>simp at g
   |builtin b=>
    simp only at g;cases hb:XP P b C with
    |none=>simp[hb]at g
    |some op=>
     simp only[hb,Za,Zp]at g;obtain⟨rfl,rfl⟩:=g;exact kX (fp E G b C args o L op hb a.eval M (Tb (fun p=>p) T a.eval R _ _ _ S hT) r B hn hI) hk
   |value x=>
    cases x with
    |func f=>
     simp only[Za,Zp]at g;obtain⟨rfl,rfl⟩:=g;simp only[We]at B;exact m f _ M (lJ (P:=P) (w:=w) (a:=a) args C f L (X f _ B)) (I M hT) B
    |tmp q=>
     simp only[Xz,Za,Zp]at g;exact V (.tmp q) (.t q) rfl g.1.symm g.2.symm L
    |const q=>
     simp only at g;cases hq:Xz (.const q)with
     |none=>simp[hq]at g
     |some q'=>
      simp only[hq,Za,Zp]at g;exact V (.const q) q' hq g.1.symm g.2.symm L
    |global q=>simp[Xz]at g
 ·exact kX (CW E G g T a.eval R M hT r B (fun f e=>s (.inl ⟨f,e⟩)) (fun e=>s (.inr e)) hn hI) hk
end
end Go.Ev
namespace Go.Ev
open Go.RowKit
theorem wo {a b:Type}:∀(l:List a) (n:Nat) (v:a) (k:List a->b),Eo l n v k=k (l.set n v)
 |[],_,_,_=>rfl
 |_::_,0,_,_=>rfl
 |x::xs,n+1,v,k=>by simp only[Eo];rw[wo xs n v];rfl
theorem xT {a b:Type}:∀(l m:List a) (k:List a->b),FX l m k=k (l++m)
 |[],_,_=>rfl
 |x::xs,m,k=>by simp only[FX];rw[xT xs m];rfl
theorem oq {a:Type}(n:Nat)(k:Nat->a):rE n k=k n:=by cases n<;>rfl
theorem Fg {a:Type}(n:Int)(k:Int->a):HK n k=k n:=by cases n<;>simp[HK,oq]
theorem rU {a:Type}(l:DL)(k:DL->a):wZ l k=k l:=by
 unfold wZ;split
 ·rw[Fg]
 ·rename_i b;cases b<;>rfl
 ·simp[oq]
 ·simp[oq]
 ·rfl
theorem jd {a:Type}:∀(l:Y') (k:Y'->a),fW l k=k l
 |[],_=>rfl
 |x::xs,k=>by simp only[fW];rw[rU,jd xs]
theorem aT {a:Type}(v:DV)(k:DV->a):D8 v k=k v:=by
 cases v with
 |one l=>simp[D8,rU]
 |agg b=>simp[D8,jd]
 |X9 c=>rfl
theorem Tq {b:Type}(T:List (Nat×DV))(a:Option Nat)(v:DV)(k:List (Nat×DV)->b):BL T a v k=k (OD T a v):=by cases a<;>rfl
theorem cM {c:Type}:∀(a:List (Nat×Xx)) (H:V') (k:V'->c),J7 H a k=k (VZ H a)
 |[],_,_=>rfl
 |(id,b)::a,H,k=>by simp only[J7,VZ];rw[wo,cM a]
theorem jZ {b:Type}(H a:V')(k:V'->b):K0 H a k=k (Ng H a):=by
 cases a with
 |nil=>rfl
 |cons x c=>simp only[K0,Ng];rw[xT]
theorem kq (H:V')(id:Nat)(b:Xx)(a:id<H.length):Xj (H.set id b)=fun x=>if x=id then some b else Xj H x:=by
 funext x;simp only[Xj,YK];by_cases e:x=id
 ·subst e;simp[a]
 ·simp[e,Ne.symm e]
theorem pG:∀(a:List (Nat×Xx)) (H:V'),(∀q∈a,q.1<H.length)->Xj (VZ H a)=Sg (Xj H) a/\(VZ H a).length=H.length
 |[],_,_=>⟨rfl,rfl⟩
 |(id,b)::a,H,hw=>by
  have c:=hw (id,b) (by simp);obtain⟨d,e⟩:=pG a (H.set id b) (fun q f=>by simpa using hw q (by simp[f]));refine⟨?_,by simp only[VZ];rw[e];simp⟩;simp only[VZ,Sg];rw[d,kq H id b c]
theorem gu:∀(a H:V'),Xj (H++a)=RN (Xj H) H.length a
 |[],H=>by simp[RN]
 |b::bs,H=>by
  have:=gu bs (H++[b]);rw[Zq,ZY]at this;rw[this];simp only[RN,Zm,ZO];congr 1;funext x;simp only[Xj,List.getElem?_append];by_cases e:x=H.length
  ·subst e;simp
  ·by_cases e2:x<H.length
   ·simp[e,e2]
   ·simp only[e,e2,if_false];rw[Yd (by simp;omega),Yd (by omega)]
theorem PA (H a:V'):Ng H a=H++a:=by cases a<;>simp[Ng]
theorem gw {E:Xa}{h:HF}{f:Nat}{g:X'}{r:Va}(a:WI E h f g=some r):(r.wr=[]/\r.rd=[]/\r.al=[]/\TV g=none)\/∃id XM e b c,TV g=some (id,XM,e)/\h id=some b/\r.wr=[(id,c)]/\r.rd=[id]/\r.al=[]:=by
 unfold WI at a;split at a
 ·rename_i j;left;cases i:g.all SP with
  |false=>simp[i]at a
  |true=>
   simp only[i,cond_true]at a;split at a
   ·split at a
    ·simp only[Za]at a;subst a;exact⟨rfl,rfl,rfl,j⟩
    ·simp at a
   ·simp at a
 ·rename_i id XM e j;right;cases i:RO g with
  |false=>simp[i]at a
  |true=>
   simp only[i,cond_true]at a;split at a
   ·rename_i b m;cases k:(Nat.beq b.XM XM&& !b.mp&& !b.fz&&b.ch.all Wc)with
    |false=>rw[k]at a;simp at a
    |true=>
     rw[k,cond_true]at a;split at a
     ·rename_i d c G n;split at a
      ·cases l:(Nat.beq c.XM b.XM&& !c.fz&& !c.mp&&c.ch.all Wc&& !((SK (Xj (c::G)) d).contains 0))with
       |false=>rw[l]at a;simp at a
       |true=>
        rw[l,cond_true,Za]at a;subst a;exact⟨id,XM,e,b,c,j,m,rfl,rfl,rfl⟩
      ·simp at a
     ·simp at a
   ·simp at a
theorem D4 {E:Xa}{h:HF}{f:Nat}{c:X'}{r:Va}(g:WI E h f c=some r):∀q∈r.wr,∃b,h q.1=some b:=by
 rcases gw g with⟨e,_⟩|⟨id,_,_,b,i,_,d,e,_⟩
 ·rw[e];simp
 ·rw[e];intro q a;simp only[ZS]at a;subst a;exact⟨b,d⟩
theorem D5 {E:Xa}{h:HF}{f:Nat}{c:X'}{r:Va}(g:WI E h f c=some r):∀id∈r.rd,∃b,h id=some b:=by
 rcases gw g with⟨_,e,_⟩|⟨id,_,_,b,i,_,d,_,e,_⟩
 ·rw[e];simp
 ·rw[e];intro q a;simp only[ZS]at a;subst a;exact⟨b,d⟩
theorem tY {E:Xa}{h i:HF}{f:Nat}{g:X'}{r:Va}(a:WI E h f g=some r)(c:∀id∈r.rd,i id=h id):WI E i f g=some r:=by
 rcases gw a with⟨_,_,_,d⟩|⟨id,XM,j,b,k,d,l,_,e,_⟩
 ·unfold WI at a⊢;rw[d]at a⊢;exact a
 ·have:=c id (by rw[e];simp);unfold WI at a⊢;rw[d]at a⊢;simp only[this]at a⊢;exact a
theorem gh (E:Xa)(m:Nat)(t:cH)(v:X')(h:HF)(n:Nat)(r:Va)(a:We E m t v h n=some r):∀q∈r.wr,∃b,h q.1=some b:=by
 have j:∀f s,VB E h f s=some r->∀q∈r.wr,∃b,h q.1=some b:=by
  intro f s g;unfold VB at g;split at g
  ·split at g
   ·split at g
    ·simp only[YY]at g;split at g<;>simp only[Za]at g<;>subst g
     ·simp
     ·intro q c;obtain⟨id,_,l⟩:=List.mem_filterMap.1 c;cases d:h id with
      |none=>simp[d]at l
      |some b=>simp only[d,Z6,Za]at l;subst l;exact⟨b,d⟩
    ·simp at g
   ·simp at g
  ·simp at g
  ·exact D4 g
 cases t with
 |call f=>exact j f v a
 |Sd=>
  simp only[We,Rc]at a;split at a
  ·exact j _ _ a
  ·exact j _ _ a
  ·simp at a
 |store u=>
  simp only[We,QC]at a;split at a
  ·split at a
   ·rename_i b d;split at a
    ·simp only[PE]at a;obtain⟨_,a⟩:=Wg a;split at a
     ·obtain⟨_,rfl⟩:=XX a;intro q c;simp at c;subst c;exact⟨b,d⟩
     ·simp at a
    ·simp at a
   ·simp at a
  ·simp at a
 |append e u bytes=>
  simp only[We,Vh]at a;split at a
  ·split at a
   ·obtain⟨_,a⟩:=Wg a;split at a
    ·simp only[WZ]at a;obtain⟨_,a⟩:=Wg a;split at a<;>simp only[Za]at a<;>subst a<;>simp
    ·split at a
     ·rename_i b d;rw[YY]at a;split at a
      ·simp only[Tv]at a;obtain⟨_,rfl⟩:=XX a;intro q c;simp at c;subst c;exact⟨b,d⟩
      ·simp only[Ry]at a;obtain⟨_,rfl⟩:=XX a;intro q c;simp at c;subst c;exact⟨b,d⟩
     ·simp at a
    ·simp at a
   ·simp at a
  ·simp at a
 |clear z=>
  simp only[We,QE]at a;split at a
  ·split at a
   ·rename_i b d;obtain⟨_,rfl⟩:=XX a;intro q c;simp at c;subst c;exact⟨b,d⟩
   ·simp at a
  ·simp at a
 |copy u=>
  simp only[We,PT]at a;split at a
  ·split at a
   ·rename_i b d;split at a
    ·simp only[O4]at a;obtain⟨_,rfl⟩:=XX a;intro q c;simp at c;subst c;exact⟨b,d⟩
    ·simp at a
   ·simp at a
  ·simp at a
 |lookup o k p z x=>
  have i:r.wr=[]:=by
   simp only[We,U9,aA,YY]at a
   (repeat' split at a)<;>simp only[Za,reduceCtorEq]at a<;>subst a<;>rfl
  rw[i];simp
 |mapUpdate o k p w=>
  simp only[We,VA]at a;split at a
  ·split at a
   ·rename_i b d;split at a
    ·obtain⟨_,a⟩:=Wg a;unfold gy at a;split at a<;>simp only[Za,reduceCtorEq]at a<;>subst a<;>(intro q c;simp at c;subst c;exact⟨b,d⟩)
    ·simp at a
   ·simp at a
  ·simp at a
 |_=>
  have i:r.wr=[]:=by
   simp only[We,ao,S1,ak,bH,QF,PU,Uc,PR,iR,au,Uo,UJ,iQ,ar,Uv,VV,Ro,Ui,Sr,PS,QD,S3,Oa,aq,Uu,Qg,U8,T8,TE,Pg,YY]at a
   (repeat' split at a)<;>simp only[Za,reduceCtorEq]at a<;>subst a<;>rfl
  rw[i];simp
section
variable {lo:Nat}{P:Program}{O:BS}{w:World}{μ:Nat->Nat}{n:Nat}
theorem js {A:Nat}{h:HF}{a:Act}{T:List (Nat×DV)}(k:Wz lo A O w μ h a T)(f:List Oper)(g:Option (Nat×Bool))(s:Option (Nat×Bool))(i:R9 f g=some s)(b:Bool)(e:UW T s=some b)(o:Oper)(t:o.guard=g):
  Region.wanted o (yielded f.toArray a.tmps)=b:=by
 cases g with
 |none=>
  simp only[R9,Za]at i;subst i;simp only[UW,Za]at e;subst e;simp[Region.wanted,t]
 |some q=>
  obtain⟨j,v⟩:=q;simp only[R9]at i;cases r:f[j]? with
  |none=>simp[r]at i
  |some x=>
  simp only[r]at i;cases p:x.dst with
  |none=>simp[p]at i
  |some d=>
  simp only[p,Za]at i;subst i;simp only[UW]at e;have z:yielded f.toArray a.tmps j=match a.tmps[d]? with |some (.bool c)=>some c|_=>none:=by
   simp[yielded,r,p];rfl
  simp only[Region.wanted,t,z];split at e
  ·rename_i c n;simp only[Za]at e;subst e;have:=(k.slot d _ n).Rs;rw[Yc]at this;cases l:a.tmps[d]? with
   |none=>rw[l]at this;simp[undef]at this
   |some u=>rw[l]at this;simp at this;subst this;simp
  ·rename_i n;simp only[Za]at e;subst e;obtain⟨B,m,y⟩:=k.slot d _ n;cases y;rw[Yc]at m;cases l:a.tmps[d]? with
   |none=>simp
   |some u=>rw[l]at m;simp at m;subst m;simp
  ·simp at e
theorem dU (E:Xa)(hE:Ww P E)(D:Nat)(heap:Bool){nt:Nat}(M:List Oper){o:Oper}{xo:Xy}(hc:UL P nt M o=some xo){a:Act}{s s':St}{rd wr:P'}
  (j:Vp E D heap xo s=some (s',rd,wr)) (hI:X3 w O μ (Xj s.H)) (A:Wz lo nt O w μ (Xj s.H) a s.T) {next:Act->World->Prop} {Q:Exit->Act->World->Prop}
  (hk:∀a' w' m,X3 w' O m (Xj s'.H)->Wz lo nt O w' m (Xj s'.H) a' s'.T->Wy O w μ (Xj s.H) w' m (Xj s'.H)->next a' w'):
  (Region.wanted o (yielded M.toArray a.tmps)=true/\o.wp P a w next Q)\/(Region.wanted o (yielded M.toArray a.tmps)=false/\next (a.put o.dst undef) w):=by
 unfold UL at hc;cases h:XU P o.op with
 |none=>simp[h]at hc
 |some q=>
 obtain⟨op,args⟩:=q;simp only[h]at hc;cases hg:R9 M o.guard with
 |none=>simp[hg]at hc
 |some g=>
 simp only[hg]at hc;split at hc<;>simp only[Za,reduceCtorEq]at hc;rename_i F;subst hc;unfold Vp at j;simp only at j;cases X:UW s.T g with
 |none=>simp[X]at j
 |some b=>
 have L:=js A M o.guard g hg b X o rfl;cases b with
 |false=>
  simp only[X,Tq,Za,Zp]at j;obtain⟨rfl,_,_⟩:=j;right;exact⟨L,hk _ w μ hI (A.put o.dst F undef (.X9 []) ⟨[],rfl,.nil⟩) (Wy.refl _ _ _ _)⟩
 |true=>
  simp only[X]at j;left;refine⟨L,?_⟩;cases hT:Xv (Vs.eval s.T) args with
  |none=>simp[hT]at j
  |some R=>
  simp only[hT]at j;cases hh:(heap&&XL E op R)with
  |false=>
   simp only[hh,cond_false]at j;cases W:We E D op R (Xj s.H) s.H.length with
   |none=>simp[W]at j
   |some r=>
   simp only[W,Pr,aT,Tq,cM,jZ,Za,Zp]at j;obtain⟨rfl,_,_⟩:=j;have b3:=gh E D op R _ _ r W;obtain⟨b1,b2⟩:=pG r.wr s.H (fun q hq=>by
    obtain⟨b,V⟩:=b3 q hq;simp only[Xj]at V;exact(Zf.1 V).1)
   have hH:Xj (Ng (VZ s.H r.wr) r.al)=pL (Xj s.H) s.H.length r:=by
    rw[PA,gu,b1,b2];rfl
   refine xE E hE D h A R hT r W (fun _=>by simp[Xj]) hI fun v w' m h1 h2 U=> ?_
   rw[<-hH]at h1 h2 U;exact hk _ w' m h2 ((A.mono U).put o.dst F v r.val h1) U
  |true=>
   simp only[hh,cond_true,Pq]at j;rw[Zs]at hh;have a3:∀(f:Nat) (vs:List Value) (dv:X'),(pT P f->(execOp a.eval o).run P w=.ok (.enter f vs.toArray) w)->XB (XA w O μ (Xj s.H)) vs dv->Vq E o.dst f dv s=some (s',rd,wr)->o.wp P a w next Q:=by
    intro f vs dv a1 a0 j;unfold Vq at j;cases hm:E.mode f with
    |pure=>simp[hm]at j
    |view=>simp[hm]at j
    |heap=>
     simp only[hm]at j;cases z:E.heap f dv s.H with
     |none=>simp[z]at j
     |some q=>
     obtain⟨v,H2⟩:=q;simp only[z,Tq,Za,Zp]at j;obtain⟨rfl,_,_⟩:=j;obtain⟨a4,J⟩:=hE.heap f dv s.H v H2 z;unfold Oper.wp;rw[a1 J,Oper.upon_enter];refine(a4 w O μ _ hI a0).mono fun e w' ⟨u,m,z,h1,h2,U⟩=> ?_
     subst z;exact hk _ w' m h2 ((A.mono U).put o.dst F u v h1) U
    |fresh=>
     simp only[hm]at j;cases z:TX E f dv s.H with
     |none=>simp[z]at j
     |some q=>
     obtain⟨v,H2⟩:=q;simp only[z,Tq,Za,Zp]at j;obtain⟨rfl,_,_⟩:=j;obtain⟨a4,J⟩:=CQ (fun as H d H' h'=>(hE.heap f as H d H' h')) z;unfold Oper.wp;rw[a1 J,Oper.upon_enter];refine(a4 w O μ _ hI a0).mono fun e w' ⟨u,m,z,h1,h2,U⟩=> ?_
     subst z;exact hk _ w' m h2 ((A.mono U).put o.dst F u v h1) U
   have a7:RX op=true:=by
    have:=hh.2;unfold XL at this;split at this
    ·rfl
    ·rfl
    ·simp at this
   obtain⟨c,Y⟩:=fj h a7;obtain⟨S,k,N⟩:=c;rw[Y]at h;simp only[XU]at h;cases a5:Pu k with
   |none=>simp[a5]at h
   |some xs=>
   simp only[a5]at h;have G:∀R,Xv (Vs.eval s.T) xs=some R->XB (XA w O μ (Xj s.H)) (k.toList.map a.eval) R:=fun R b0=>tA a.eval (Tb (fun p=>p) s.T a.eval (fun x xo d=>A.eval x xo d) _ _ _ a5 b0)
   have a2:∀x x',Xz x=some x'->op=.Sd->args=x'::xs->o.op=.call ⟨.value x,k,N⟩->o.wp P a w next Q:=by
    intro x x' hx b5 b4 ho;subst b5;subst b4;obtain⟨d,a9,hd,a6,rfl⟩:=map_cons hT;have a8:=A.eval _ _ _ hx hd;have ha:=G a9 a6;simp only at j;split at j
    ·rename_i f n vs K;simp only[ZH]at K;obtain⟨rfl,rfl⟩:=K;have B:XE w O μ (Xj s.H) (a.eval x) (.p (.fn f n)):=a8;generalize hv:a.eval x=v at B;cases B with
     |p _ _ hp=>cases hp with
      |fn _ _ cv hl I=>
       refine a3 (fI f) _ _ (fun z=>Nu x k N ho f cv hv z) (bV f ha ?_) j;refine XB.Uj (by simpa using hl) fun i u y hu Z=> ?_
       rw[ZD]at Z;cases C:n[i]? with
       |none=>simp[C]at Z
       |some l=>simp only[C,Z6,Za]at Z;subst Z;exact XE.p _ _ (I i l u C hu)
    ·rename_i f n vs K;simp only[ZH]at K;obtain⟨rfl,rfl⟩:=K;have B:XE w O μ (Xj s.H) (a.eval x) (.fn f n):=a8;generalize hv:a.eval x=v at B;cases B with
     |fn _ _ cv hl I=>
       refine a3 (fI f) _ _ (fun z=>Nu x k N ho f cv hv z) (bV f ha ?_) j;refine XB.Uj (by simpa using hl) fun i u y hu Z=> ?_
       rw[ZD]at Z;cases C:n[i]? with
       |none=>simp[C]at Z
       |some l=>simp only[C,Z6,Za]at Z;subst Z;exact I i l u C hu
    ·simp at j
   cases S with
   |invoke _ _=>simp at h
   |builtin b=>
    simp only at h;cases V:XP P b N with
    |none=>simp[V]at h
    |some b6=>
     simp only[V,Za,Zp]at h;obtain⟨rfl,_⟩:=h;exfalso;unfold XP at V
     (repeat' split at V)<;>simp only[Za,reduceCtorEq]at V<;>subst V<;>simp[RX]at a7
   |value x=>
    cases x with
    |func g=>
     simp only[Za,Zp]at h;obtain⟨rfl,rfl⟩:=h;exact a3 g _ R (fun z=>lJ k N g Y z) (G R hT) j
    |tmp q=>
     simp only[Xz,Za,Zp]at h;exact a2 (.tmp q) (.t q) rfl h.1.symm h.2.symm Y
    |const q=>
     simp only at h;cases hq:Xz (.const q)with
     |none=>simp[hq]at h
     |some q'=>
      simp only[hq,Za,Zp]at h;exact a2 (.const q) q' hq h.1.symm h.2.symm Y
    |global q=>simp[Xz]at h
def Un (F:Fence):Prop:=F=Fence.wide\/∃l,F=Fence.wide.inRound l
theorem Un.fn {F:Fence}(a:Un F)(f:FuncId):F.fn f:=by rcases a with rfl|⟨l,rfl⟩<;>trivial
theorem Un.depth {F:Fence}(a:Un F):F.depth.isSome=false:=by rcases a with rfl|⟨l,rfl⟩<;>rfl
theorem Un.calls {F:Fence}(a:Un F){n:Nat}{f:FuncId}{args:Array Value}{w:World}{R:Ending->World->Prop}(h:Calls P f args w R):CallsIn F n P f args w R:=by
 rcases a with rfl|⟨l,rfl⟩
 ·exact callsIn_wide.2 h
 ·exact CallsIn.inRound l (callsIn_wide.2 h)
theorem Un.rows {F:Fence}(d:Un F){n:Nat}{a:String}{args:Array Value}{w:World}{R:Value->World->Prop}(h:Rows P a args w R):RowsIn F n P a args w R:=by
 intro c b _;obtain⟨v,w',r,s⟩:=h c b;rcases d with rfl|⟨l,rfl⟩
 ·exact⟨v,w',r,stepsIn_wide.2 s⟩
 ·exact⟨v,w',r,stepsIn_wide.2 s⟩
theorem SD {a:Op}{q:cH×List Vs}(h:XU P a=some q):∀c,a≠.defer c:=by
 intro c e;subst e;simp[XU]at h
theorem bG {F:Fence}(b:Un F){n:Nat}{o:Oper}{a:Act}{next:Act->World->Prop}{Q:Exit->Act->World->Prop}(d:∀c,o.op≠.defer c)(h:o.wp P a w next Q):o.wpIn F n P a w next Q:=by
 refine⟨fun f _=>b.fn f,?_⟩;rw[Oper.semAt_eq _ _ _ d];unfold Oper.wp at h;generalize (execOp a.eval o).run P w=r at h⊢;cases r with
 |ok e w'=>cases e with
  |enter f args=>exact⟨by rw[b.depth];simp,b.calls h⟩
  |row r args=>exact⟨by rw[b.depth];simp,b.rows h⟩
  |round l f tmps as g=>exact absurd h (fun h=>h)
  |_=>exact h
 |halt x w'=>cases x<;>exact h
theorem jG (E:Xa)(hE:Ww P E){F:Fence}(r:Un F)(n b:Nat){nt:Nat}(d:List Oper){Q:Exit->Act->World->Prop}:∀(l:List Oper) (p:F'),Xv (UL P nt d) l=some p->∀(s g:St) (a:Act) (w:World) (μ:Nat->Nat),UY E b p s=some g->
  X3 w O μ (Xj s.H)->Wz lo nt O w μ (Xj s.H) a s.T->
  (∀m w' e,X3 w' O e (Xj g.H)->Wz lo nt O w' e (Xj g.H) m g.T->Wy O w μ (Xj s.H) w' e (Xj g.H)->Q .normal m w')->wpListIn F n P d.toArray Q l a w
 |[],p,hx,s,g,a,w,μ,hr,hI,hsl,hk=>by
  rw[fG hx]at hr;simp only[UY,Za]at hr;subst hr;exact hk a w μ hI hsl (Wy.refl _ _ _ _)
 |o::l,p,hx,s,g,a,w,μ,hr,hI,hsl,hk=>by
  obtain⟨J,x,h,v,rfl⟩:=map_cons hx;simp only[UY]at hr;cases t:Vp E b true J s with
  |none=>simp[t]at hr
  |some q=>
  obtain⟨G,K,L⟩:=q;simp only[t]at hr;have:=dU (O:=O) (w:=w) (μ:=μ) E hE b true d h t hI hsl (next:=wpListIn F n P d.toArray Q l) (Q:=Q) fun m w' e i j D=>
   jG E hE r n b d l x v G g m w' e hr i j fun z I y A B C=>hk z I y A B (D.trans C)
  have u:∀c,o.op≠.defer c:=by
   unfold UL at h;cases k:XU P o.op with
   |none=>simp[k]at h
   |some q=>exact SD k
  unfold wpListIn;rcases this with⟨i,j⟩|⟨i,j⟩
  ·rw[if_pos i];exact bG r u j
  ·rw[if_neg (by rw[i];simp)];exact⟨fun f _=>r.fn f,j⟩
end
end Go.Ev
namespace Go.Ev
open Go.RowKit
section
variable {lo:Nat}{P:Program}{O:BS}{w w':World}{μ:Nat->Nat}{h:HF}
structure Tl (w w':World):Prop where
 size:w.heap.size<=w'.heap.size
 cells:∀(b:Nat) (C:Array Value) (T:TypeId) (z:Nat×Nat),w.heap[b]? =some (.cells C T z)->w'.heap[b]? =some (.cells C T z)
 maps:∀(b:Nat) (es:Array MapEntry) (clk:Nat),w.heap[b]? =some (.map es clk)->w'.heap[b]? =some (.map es clk)
 KW:∀(b:Nat) (o:Obj),w.heap[b]? =some o->kU o->∃o',w'.heap[b]? =some o'/\kU o'
theorem Tl.cell (s:Tl w w'){a:Addr}{v:Value}(b:w.cell? a=some v):w'.cell? a=some v:=by
 grind [World.cell?,cells]
theorem Ws.same (s:Tl w w'){L:BS}{v:Value}{l:PL}(r:Ws w L v l):Ws w' L v l:=by
 induction r with
 |bool b=>exact .bool b
 |int a n=>exact .int a n
 |Xq=>exact .Xq
 |str x=>exact .str x
 |Qo v h=>exact .Qo v h
 |fn f k A D p o=>exact .fn f k A D o
 |ref b g z e u p E o=>exact .ref b g z e u (fun j d t=>s.cell (p j d t)) o
 |Xn b g G q B e u m F p E y o=>exact .Xn b g G q B e u m F (fun i c j d C t=>s.cell (p i c j d C t)) o y
theorem XE.same (s:Tl w w'){v:Value}{l:DL}(r:XE w O μ h v l):XE w' O μ h v l:=by
 induction r with
 |p v l A=>exact .p v l (A.same s)
 |own id XM a q b g o j d n k m=>
  refine .own id XM a q b g o j d n k fun e=> ?_
  obtain⟨u,C,T,x,y⟩:=m e;exact⟨u,C,T,s.cells _ _ _ _ x,y⟩
 |ptr id XM i a b g o d n m=>exact .ptr id XM i a b g o d n m
 |fn f c t k D B=>exact .fn f c t k B
 |mp id b d z=>exact .mp id b d z
theorem V5.same (s:Tl w w'){v:Value}{d:DV}(r:V5 w O μ h v d):V5 w' O μ h v d:=by
 cases d with
 |one l=>exact XE.same s r
 |agg e=>obtain⟨c,b,a⟩:=r;exact⟨c,b,a.imp fun _ _=>XE.same s⟩
 |X9 f=>exact r
theorem XA.same (s:Tl w w'){v:Value}{d:DV}(r:XA w O μ h v d):XA w' O μ h v d:=by
 cases d with
 |one l=>exact V5.same (d:=.one l) s r
 |agg a=>exact V5.same (d:=.agg a) s r
 |X9 f=>obtain⟨e,c,b⟩:=r;exact⟨e,c,b.imp fun _ _=>V5.same s⟩
theorem Wr.same (s:Tl w w'){id:Nat}{b:Xx}(a:Wr w O μ h id b):Wr w' O μ h id b:=by
 unfold Wr at a⊢;cases n:b.mp
 ·rw[n]at a;obtain⟨C,g,B,l⟩:=a;refine⟨C,s.cells _ _ _ _ g,B,fun i c m=>⟨(l i c m).1,fun j d A=> ?_⟩⟩;obtain⟨v,k,E⟩:=(l i c m).2 j d A;exact⟨v,k,E.same s⟩
 ·rw[n]at a;simp only[if_true]at a⊢;cases e:Nat.beq b.ty 2
  case true=>
   rw[e,if_pos rfl]at a;rw[if_pos rfl];obtain⟨o,D,z⟩:=a;exact s.KW _ o D z
  rw[e,if_neg (by simp)]at a;rw[if_neg (by simp)];obtain⟨p,f,g,k,y⟩:=a;exact⟨p,f,s.maps _ _ _ g,k,y.imp fun x c ⟨F,G,q,r,t,u⟩=>⟨F,G,q,r,t,u.imp fun _ _=>XE.same s⟩⟩
theorem X3.same (s:Tl w w')(a:X3 w O μ h):X3 w' O μ h:=
 ⟨fun id b c=>(a.RH id b c).same s,a.inj,a.S7,fun b c=>ZZ (a.lt b c) s.size⟩
theorem U6 {l:Nat}{o:Obj}(d:w.heap[l]? =some o)(c:kU o){o':Obj}(g:kU o'):Tl w (w.putObj l o'):=by
 refine⟨by simp[World.putObj],fun b C T z a=> ?_,fun b h f a=> ?_,fun b x a i=> ?_⟩
 ·have :b≠l:=fun e=>by rw[e,d]at a;cases a;exact c.1 _ _ _ rfl
  grind [World.putObj_heap_other]
 ·have :b≠l:=fun e=>by rw[e,d]at a;cases a;exact c.2 _ _ rfl
  grind [World.putObj_heap_other]
 grind [World.putObj_heap_same,World.putObj_heap_other]
theorem T9 {W:World}{d:Nat->Nat}{f:HF}(i:X3 w O μ h)(m:Wy O w μ h W d f){l:Nat}(k:w.heap.size<=l)(g:Obj):Wy O w μ h (W.putObj l g) d f:=by
 have c:∀b,b<w.heap.size->(W.putObj l g).heap[b]? =W.heap[b]? :=fun b a=>World.putObj_heap_other (fun e=>by omega)
 refine⟨m.os,m.tape,m.output,⟨by simp only[World.putObj,Array.size_setIfInBounds];exact m.keeps.size,fun b a j=>(c b a).trans (m.keeps.VM b a j),m.keeps.live⟩,fun b a=>(c b (i.lt b a)).trans (m.N1 b a),fun id b a=> ?_,m.maps⟩;obtain⟨n,o,p,q,r⟩:=m.ids id b a
 grind
theorem Wz.same {c:Nat}{a:Act}{T:List (Nat×DV)}(s:Wz lo c O w μ h a T){l:Nat}{o:Obj}(i:w.heap[l]? =some o)(g:kU o)(j:∀x,o≠.deferred x){e:Obj}(b:kU e):Wz lo c O (w.putObj l e) μ h a T:=by
 have f:=U6 i g b;refine⟨⟨Zx s.nb.1 f.size,s.nb.2.1,fun d b=> ?_⟩,s.sz,fun t d k=>(s.slot t d k).same f⟩;obtain⟨D,m,n,p,q⟩:=s.nb.2.2 d b
 grind [World.putObj_heap_other]
end
end Go.Ev
