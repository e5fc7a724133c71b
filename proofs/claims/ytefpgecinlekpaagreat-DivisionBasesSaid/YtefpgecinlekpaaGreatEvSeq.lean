/- Slots; one operation under the model's weakest preconditions; regions in the order of the text. -/
import Derived.Test.YtefpgecinlekpaaGreatEvOpSim
import Derived.RangeFuncSeq
import Derived.OrdersIn
import Derived.TacticsIn
import Derived.LoopNIn
import Derived.RangeFuncCalls
import Derived.RangeFuncLeaves
namespace Go.Ev
open Go.RowKit
section
variable {lo:Nat}{P:Program}{O:BS}{w:World}{μ:Nat->Nat}{h:HF}{n:Nat}
def mark0 (D:Nat):Deferred:={target:=.collected D,args:=#[]}
def Marks (lo:Nat)(O:BS)(w:World)(μ:Nat->Nat)(h:HF)(ds:List Deferred):Prop:=
 lo<=w.heap.size/\ds.Pairwise (fun x y=>x.target≠y.target)/\∀d∈ds,∃D,d=mark0 D/\lo<=D/\w.heap[D]? =some (.deferred (some []))/\¬Live O μ h D
theorem Marks.mono {lo:Nat}{w':World}{μ':Nat->Nat}{h':HF}{ds:List Deferred}(s:Marks lo O w μ h ds)(m:Mono O w μ h w' μ' h'):Marks lo O w' μ' h' ds:=by
 refine⟨ZC s.1 m.keeps.size,s.2.1,fun d hd=> ?_⟩
 obtain⟨D,h1,h2,h3,h4⟩:=s.2.2 d hd
 have hlt:D<w.heap.size:=(ZW.1 h3).1
 refine⟨D,h1,h2,(m.keeps.keep D hlt h4).trans h3,fun hl=> ?_⟩
 rcases m.keeps.live D hl with h|h
 ·exact h4 h
 ·omega
structure Slots (lo nt:Nat)(O:BS)(w:World)(μ:Nat->Nat)(h:HF)(a:Act)(T:List (Nat×DV)):Prop where
 dfr:Marks lo O w μ h a.defers
 sz:a.tmps.size=nt
 slot:∀t d,Xf T t=some d->Xo w O μ h (a.tmps.getD t undef) d
theorem Slots.mono {nt:Nat}{w':World}{μ':Nat->Nat}{h':HF}{a:Act}{T:List (Nat×DV)}(s:Slots lo nt O w μ h a T)(m:Mono O w μ h w' μ' h'):Slots lo nt O w' μ' h' a T:=
 ⟨s.dfr.mono m,s.sz,fun t d hd=>(s.slot t d hd).mono m⟩
theorem Vv (t:Nat)(v:DV)(T:List (Nat×DV))(k:Nat):Xf ((t,v)::T) k=if t=k then some v else Xf T k:=by
 simp only[Xf]
 by_cases e:t=k
 ·subst e;simp[YH]
 ·rw[if_neg e]
  have :Nat.beq t k=false:=by
   cases hb:Nat.beq t k
   ·rfl
   ·exact absurd (Zj hb) e
  rw[this];rfl
theorem Slots.put {nt:Nat}{a:Act}{T:List (Nat×DV)}(s:Slots lo nt O w μ h a T)(dst:Option Nat)(hd:dstOk nt dst=true)(v:Value)(d:DV)(hv:Xo w O μ h v d):Slots lo nt O w μ h (a.put dst v) (putT T dst d):=by
 cases dst with
 |none=>exact s
 |some q=>
  have hq:q<nt:=TL hd
  refine⟨s.dfr,by simp[Act.put,s.sz],fun t d' ht=> ?_⟩
  simp only[putT,Vv]at ht
  simp only[Act.put]
  by_cases e:q=t
  ·subst e
   rw[if_pos rfl]at ht;cases ht
   have :(a.tmps.setIfInBounds q v).getD q undef=v:=by
    rw[ZF,Yw (by rw[s.sz];exact hq)];rfl
   rw[this];exact hv
  ·rw[if_neg e]at ht
   have :(a.tmps.setIfInBounds q v).getD t undef=a.tmps.getD t undef:=by
    rw[ZF,Array.getElem?_setIfInBounds_ne e,ZF]
   rw[this];exact s.slot t d' ht
theorem litV_rep {v:Value}{p:PV}(hl:litV v=some p):Xo w O μ h v (inj p):=by
 unfold litV at hl
 split at hl
 ·rename_i cs
  cases hm:Xl litL cs.toList with
  |none=>simp[hm]at hl
  |some ls=>
  simp only[hm,Za]at hl;subst hl
  refine⟨cs.toList,by simp,?_⟩
  have:=Sw (R:=fun v l=>litL v=some l) (fun _ _ e=>e) hm
  generalize cs.toList=vs at this
  clear hm
  induction this with
  |nil=>exact .nil
  |cons hx _ ih=>exact .cons (.p _ _ (litL_rep hx _)) ih
 ·rename_i vs
  split at hl<;>simp only[Za,reduceCtorEq]at hl
  subst hl
  rename_i he
  have :vs=#[]:=by simpa using he
  subst this
  exact⟨[],rfl,.nil⟩
 ·cases hm:litL v with
  |none=>simp[hm]at hl
  |some l=>
  simp only[hm,Za]at hl;subst hl
  exact RepD.p _ _ (litL_rep hm _)
theorem Slots.eval {nt:Nat}{a:Act}{T:List (Nat×DV)}(s:Slots lo nt O w μ h a T)(x:Operand)(xo:XOpd)(d:DV)(hc:Xm x=some xo)(he:xo.eval T=some d):Xo w O μ h (a.eval x) d:=by
 cases x with
 |tmp t=>simp only[Xm,Za]at hc;subst hc;exact s.slot t d he
 |const v=>
  simp only[Xm]at hc
  cases hl:litV v with
  |none=>simp[hl]at hc
  |some p=>
  simp only[hl,Za]at hc;subst hc
  simp only[XOpd.eval,Za]at he;subst he
  exact litV_rep hl
 |global g=>simp[Xm]at hc
 |func f=>
  simp only[Xm]at hc
  split at hc<;>simp only[Za,reduceCtorEq]at hc
  rename_i hb
  subst hc
  simp only[XOpd.eval,Za]at he;subst he
  have:=RepP.fn (w:=w) (O:=Live O μ h) f [] [] rfl fun i d v hd=>by simp at hd
  rw[fnV_t hb]at this
  exact RepD.p _ _ this
def Ent (P:Program)(f:Nat):Prop:=∀(args:Array Value) (w:World),(callFunc f args).run P w=.ok (.enter f args) w
theorem ent_of {f : FuncId} {fn : Func} {c : Code} (hf : P.funcs[f]? = some fn) (hname : (fn.name == "runtime.NumGoroutine") = false) (hb : fn.body = some c) : Ent P f := by
 intro args w
 have h1 : fn.name ≠ "runtime.NumGoroutine" := by simpa using hname
 simp[callFunc,hf,h1,hb,mark]
def Tq:XOp->Bool
 | .call _=>true
 | .callV=>true
 |_=>false
theorem compOp_call {op:Op}{xop:XOp}{xargs:List XOpd}(h1:Xv P op=some (xop,xargs))(h2:Tq xop=true):∃c,op=.call c:=by
 cases op with
 |call c=>exact⟨c,rfl⟩
 |makeFunc fn first caps=>
  cases fn<;>simp only[Xv]at h1<;>(repeat' split at h1)<;>simp only[Za,Zl,reduceCtorEq]at h1<;>(try(obtain⟨rfl,rfl⟩:=h1;simp[Tq]at h2))
 |makeMap t rv=>cases rv<;>simp only[Xv]at h1<;>(repeat' split at h1)<;>simp only[Za,Zl,reduceCtorEq]at h1<;>(try(obtain⟨rfl,rfl⟩:=h1;simp[Tq]at h2))
 |slice t x lo hi mx=>
  cases mx with
  |none=>simp only[Xv]at h1<;>(repeat' split at h1)<;>simp only[Za,Zl,reduceCtorEq]at h1<;>(try(obtain⟨rfl,rfl⟩:=h1;simp[Tq]at h2))
  |some m=>
   cases lo with
   |none=>simp[Xv]at h1
   |some l=>
   cases hi with
   |none=>simp[Xv]at h1
   |some u=>simp only[Xv]at h1<;>(repeat' split at h1)<;>simp only[Za,Zl,reduceCtorEq]at h1<;>(try(obtain⟨rfl,rfl⟩:=h1;simp[Tq]at h2))
 |_=>simp only[Xv]at h1<;>(repeat' split at h1)<;>simp only[Za,Zl,reduceCtorEq]at h1<;>(try(obtain⟨rfl,rfl⟩:=h1;simp[Tq]at h2))
def CH (P:Program)(f:Nat)(args:List DV)(H:List Blk)(d:DV)(H':List Blk):Prop:=
 ∀(w:World) (O:BS) (μ:Nat->Nat) (vs:List Value),HInv w O μ (Xi H)->All2 (Xo w O μ (Xi H)) vs args->
  Calls P f vs.toArray w fun e w'=>∃v μ',e=.returned v/\Xo w' O μ' (Xi H') v d/\HInv w' O μ' (Xi H')/\Mono O w μ (Xi H) w' μ' (Xi H')
def IterOk (P:Program)(f:Nat)(caps:List PL)(xss:List (List PV)):Prop:=
 ∀(l:Nat) (cv:List Value) (J:Nat->World->Prop) (Jx:World->Prop),
  (∀i W,J i W->∃L:BS,All2 (RepP W L) cv caps)->
  (∀i W xs vs,J i W->xss[i]? =some xs->All2 (fun v x=>∀L μ h,Xo W L μ h v (inj x)) vs xs->YieldAt Fence.wide 0 P l vs.toArray W fun e W'=>(e=.returned (.bool true)/\J (i+1) W')\/(e=.returned (.bool false)/\Jx W'))->
  ∀W,J 0 W->CallsIn Fence.wide 0 P f (#[.func (.yield l) #[] #[]]++cv.toArray) W fun e W'=>(∃v,e=.returned v)/\(J xss.length W'\/Jx W')
structure OracleOk (P:Program)(E:Oracle):Prop where
 pure:∀f ps r,E.pure f ps=some r->CC P f ps r/\Ent P f
 heap:∀f args H d H',E.heap f args H=some (d,H')->CH P f args H d H'/\Ent P f
 iter:∀f caps xss,E.iter f caps=some xss->IterOk P f caps xss/\Ent P f
theorem wp_of_sim {a:Act}{o:Oper}{r:Res}{next:Act->World->Prop}{Q:Exit->Act->World->Prop}(hs:WO O w μ h n ((execOp a.eval o).run P w) r)
  (hk:∀v w' μ',Xo w' O μ' (upd h n r) v r.val->HInv w' O μ' (upd h n r)->Mono O w μ h w' μ' (upd h n r)->next (a.put o.dst v) w'):o.wp P a w next Q:=by
 obtain⟨v,w',μ',hres,h1,h2,h3⟩:=hs
 unfold Oper.wp
 rcases hres with hres|⟨hres,rfl⟩
 ·rw[hres];exact hk v w' μ' h1 h2 h3
 ·rw[hres];exact hk _ w' μ' h1 h2 h3
theorem all2_map {α β:Type}{R:Value->β->Prop}(g:α->Value){xs:List α}{ys:List β}(ha:All2 (fun x y=>R (g x) y) xs ys):All2 R (xs.map g) ys:=by
 induction ha with
 |nil=>exact .nil
 |cons h1 _ ih=>exact .cons h1 ih
theorem run_callf {a:Act}{o:Oper}(args:Array Operand)(tys:Array TypeId)(f:Nat)(ho:o.op=.call ⟨.value (.func f),args,tys⟩)(he:Ent P f):
  (execOp a.eval o).run P w=.ok (.enter f (args.toList.map a.eval).toArray) w:=by
 have e1:∀(q:Array Value),(callFunc f q).run P w=.ok (.enter f q) w:=fun q=>he q w
 have hx:a.eval (.func f)=.func (.func f) #[] #[]:=rfl
 simp only[execOp,ho,resolve,Deferred.ofValue,hx,Sem.run_bind,Sem.run_pure,Result.andThen_ok,invoke,e1]
 congr 2
 apply Array.ext';simp
theorem run_callv {a:Act}{o:Oper}(x:Operand)(args:Array Operand)(tys:Array TypeId)(ho:o.op=.call ⟨.value x,args,tys⟩)(f:Nat)(cv:List Value)(hx:a.eval x=fnV f cv)(he:Ent P (fnF f)):
  (execOp a.eval o).run P w=.ok (.enter (fnF f) (fnA f (args.toList.map a.eval) cv).toArray) w:=by
 have e1:∀(q:Array Value),(callFunc (fnF f) q).run P w=.ok (.enter (fnF f) q) w:=fun q=>he q w
 cases hb:Nat.blt f bnd with
 |true=>
  rw[fnV_t hb]at hx
  have hf:fnF f=f:=by simp only[fnF,hb,cond_true]
  rw[hf]at e1
  simp only[execOp,ho,resolve,Deferred.ofValue,hx,Sem.run_bind,Sem.run_pure,Result.andThen_ok,invoke,e1,hf,fnA,hb,cond_true]
  congr 2
  apply Array.ext';simp
 |false=>
  rw[fnV_f hb]at hx
  have hf:fnF f=f-bnd:=by simp only[fnF,hb,cond_false]
  rw[hf]at e1
  simp only[execOp,ho,resolve,Deferred.ofValue,hx,Sem.run_bind,Sem.run_pure,Result.andThen_ok,invoke,e1,hf,fnA,hb,cond_false]
  congr 2
  apply Array.ext';simp
theorem fnA_all2 {α β:Type}{R:α->β->Prop}(f:Nat){vs cv:List α}{ds cs:List β}(h1:All2 R vs ds)(h2:All2 R cv cs):All2 R (fnA f vs cv) (fnA f ds cs):=by
 unfold fnA
 cases Nat.blt f bnd with
 |true=>exact h1.append h2
 |false=>exact h2.append h1
theorem evOp_wp (E:Oracle)(hE:OracleOk P E)(base:Nat){o:Oper}{xop:XOp}{xargs:List XOpd}(hc:Xv P o.op=some (xop,xargs)){nt:Nat}{a:Act}{T:List (Nat×DV)}(hsl:Slots lo nt O w μ h a T)(ds:List DV)
  (hT:Xl (XOpd.eval T) xargs=some ds) (r:Res) (hr:XG E base xop ds h n=some r) (hn:r.al≠[]->h n=none) (hI:HInv w O μ h) {next:Act->World->Prop} {Q:Exit->Act->World->Prop}
  (hk:∀v w' μ',Xo w' O μ' (upd h n r) v r.val->HInv w' O μ' (upd h n r)->Mono O w μ h w' μ' (upd h n r)->next (a.put o.dst v) w'):o.wp P a w next Q:=by
 have hev:=fun x xo d=>hsl.eval x xo d
 have enter:∀(f:Nat) (vs:List Value) (dv:List DV),(execOp a.eval o).run P w=.ok (.enter f vs.toArray) w->All2 (Xo w O μ h) vs dv->Wc E h f dv=some r->o.wp P a w next Q:=by
  intro f vs dv hrun hall hp
  unfold Oper.wp
  rw[hrun,Oper.upon_enter]
  refine(call_pure (n:=n) E f (fun ps r' h'=>(hE.pure f ps r' h').1) vs dv hall r hp hI).mono fun e w' ⟨v,he,h1,h2,h3⟩=> ?_
  subst he
  exact hk v w' μ h1 h2 h3
 have ent:∀f dv,Wc E h f dv=some r->Ent P f:=by
  intro f dv hp
  unfold Wc at hp
  split at hp
  ·split at hp
   ·split at hp
    ·rename_i ps _ r' hr'
     exact(hE.pure f _ _ hr').2
    ·simp at hp
   ·simp at hp
  ·simp at hp
 by_cases hcall:(∃f,xop=.call f)\/xop=.callV
 ·have hx2:Tq xop=true:=by
   rcases hcall with⟨f,rfl⟩|rfl<;>rfl
  obtain⟨c,hop⟩:=compOp_call hc hx2
  ·obtain⟨callee,args,tys⟩:=c
   simp only[Xv,hop]at hc
   cases hxs:SK args with
   |none=>simp[hxs]at hc
   |some xs=>
   simp only[hxs]at hc
   have hargs:∀ds,Xl (XOpd.eval T) xs=some ds->All2 (Xo w O μ h) (args.toList.map a.eval) ds:=fun ds hds=>all2_map a.eval (VN (fun p=>p) T a.eval hev _ _ _ hxs hds)
   have viaV:∀x x',Xm x=some x'->xop=.callV->xargs=x'::xs->o.op=.call ⟨.value x,args,tys⟩->o.wp P a w next Q:=by
    intro x x' hx hxo hxa ho
    subst hxo;subst hxa
    obtain⟨d,ds',hd,hds',rfl⟩:=map_cons hT
    have hxr:=hev _ _ _ hx hd
    have ha:=hargs ds' hds'
    simp only[XG]at hr
    unfold V6 at hr
    split at hr
    ·rename_i f caps vs heq
     simp only[ZI]at heq;obtain⟨rfl,rfl⟩:=heq
     have hxr':RepD w O μ h (a.eval x) (.p (.fn f caps)):=hxr
     generalize hv:a.eval x=v at hxr'
     cases hxr' with
     |p _ _ hp=>cases hp with
      |fn _ _ cv hl hcap=>
       refine enter (fnF f) _ _ (run_callv x args tys ho f cv hv (ent _ _ hr)) (fnA_all2 f ha ?_) hr
       refine All2.Vk (by simpa using hl) fun i u y hu hy=> ?_
       rw[Zv]at hy
       cases hcc:caps[i]? with
       |none=>simp[hcc]at hy
       |some l=>simp only[hcc,ZS,Za]at hy;subst hy;exact RepD.p _ _ (hcap i l u hcc hu)
    ·rename_i f caps vs heq
     simp only[ZI]at heq;obtain⟨rfl,rfl⟩:=heq
     have hxr':RepD w O μ h (a.eval x) (.fn f caps):=hxr
     generalize hv:a.eval x=v at hxr'
     cases hxr' with
     |fn _ _ cv hl hcap=>
      refine enter (fnF f) _ _ (run_callv x args tys ho f cv hv (ent _ _ hr)) (fnA_all2 f ha ?_) hr
      refine All2.Vk (by simpa using hl) fun i u y hu hy=> ?_
      rw[Zv]at hy
      cases hcc:caps[i]? with
      |none=>simp[hcc]at hy
      |some l=>simp only[hcc,ZS,Za]at hy;subst hy;exact hcap i l u hcc hu
    ·simp at hr
   cases callee with
   |invoke _ _=>simp at hc
   |builtin b=>
    simp only at hc
    cases hb:Xu P b tys with
    |none=>simp[hb]at hc
    |some op=>
     simp only[hb,Za,Zl]at hc
     obtain⟨rfl,rfl⟩:=hc
     exact wp_of_sim (builtin_sim E base b tys args o hop op hb a.eval ds (VN (fun p=>p) T a.eval hev _ _ _ hxs hT) r hr hn hI) hk
   |value x=>
    cases x with
    |func f=>
     simp only[Za,Zl]at hc
     obtain⟨rfl,rfl⟩:=hc
     simp only[XG]at hr
     exact enter f _ ds (run_callf (P:=P) (w:=w) (a:=a) args tys f hop (ent f _ hr)) (hargs ds hT) hr
    |tmp q=>
     simp only[Xm,Za,Zl]at hc
     exact viaV (.tmp q) (.t q) rfl hc.1.symm hc.2.symm hop
    |const q=>
     simp only at hc
     cases hq:Xm (.const q)with
     |none=>simp[hq]at hc
     |some q'=>
      simp only[hq,Za,Zl]at hc
      exact viaV (.const q) q' hq hc.1.symm hc.2.symm hop
    |global q=>simp[Xm]at hc
 ·exact wp_of_sim (evOp_sim E base hc T a.eval hev ds hT r hr (fun f e=>hcall (.inl ⟨f,e⟩)) (fun e=>hcall (.inr e)) hn hI) hk
end
end Go.Ev
namespace Go.Ev
open Go.RowKit
theorem setK_eq {α β:Type}:∀(l:List α) (n:Nat) (v:α) (k:List α->β),setK l n v k=k (l.set n v)
 |[],_,_,_=>rfl
 |_::_,0,_,_=>rfl
 |x::xs,n+1,v,k=>by simp only[setK];rw[setK_eq xs n v];rfl
theorem appK_eq {α β:Type}:∀(l m:List α) (k:List α->β),appK l m k=k (l++m)
 |[],_,_=>rfl
 |x::xs,m,k=>by simp only[appK];rw[appK_eq xs m];rfl
theorem natK_eq {β:Type}(n:Nat)(k:Nat->β):natK n k=k n:=by cases n<;>rfl
theorem intK_eq {β:Type}(n:Int)(k:Int->β):intK n k=k n:=by cases n<;>simp[intK,natK_eq]
theorem leafK_eq {β:Type}(l:DL)(k:DL->β):leafK l k=k l:=by
 unfold leafK
 split
 ·rw[intK_eq]
 ·rename_i b;cases b<;>rfl
 ·simp[natK_eq]
 ·simp[natK_eq]
 ·rfl
theorem leavesK_eq {β:Type}:∀(l:List DL) (k:List DL->β),leavesK l k=k l
 |[],_=>rfl
 |x::xs,k=>by simp only[leavesK];rw[leafK_eq,leavesK_eq xs]
theorem valK_eq {β:Type}(v:DV)(k:DV->β):valK v k=k v:=by
 cases v with
 |one l=>simp[valK,leafK_eq]
 |agg cs=>simp[valK,leavesK_eq]
 |tup vs=>rfl
theorem Up {β:Type}(T:List (Nat×DV))(dst:Option Nat)(v:DV)(k:List (Nat×DV)->β):putK T dst v k=k (putT T dst v):=by cases dst<;>rfl
theorem wrK_eq {β:Type}:∀(ws:List (Nat×Blk)) (H:List Blk) (k:List Blk->β),wrK H ws k=k (WM H ws)
 |[],_,_=>rfl
 |(id,b)::ws,H,k=>by simp only[wrK,WM];rw[setK_eq,wrK_eq ws]
theorem alK_eq {β:Type}(H al:List Blk)(k:List Blk->β):alK H al k=k (addAl H al):=by
 cases al with
 |nil=>rfl
 |cons x xs=>simp only[alK,addAl];rw[appK_eq]
theorem HFof_set (H:List Blk)(id:Nat)(b:Blk)(hid:id<H.length):Xi (H.set id b)=fun x=>if x=id then some b else Xi H x:=by
 funext x
 simp only[Xi,List.getElem?_set]
 by_cases e:x=id
 ·subst e;simp[hid]
 ·simp[e,Ne.symm e]
theorem HFof_wr:∀(ws:List (Nat×Blk)) (H:List Blk),(∀q∈ws,q.1<H.length)->Xi (WM H ws)=Uk (Xi H) ws/\(WM H ws).length=H.length
 |[],_,_=>⟨rfl,rfl⟩
 |(id,b)::ws,H,hw=>by
  have hid:=hw (id,b) (by simp)
  obtain⟨h1,h2⟩:=HFof_wr ws (H.set id b) (fun q hq=>by simpa using hw q (by simp[hq]))
  refine⟨?_,by simp only[WM];rw[h2];simp⟩
  simp only[WM,Uk]
  rw[h1,HFof_set H id b hid]
theorem HFof_al:∀(al H:List Blk),Xi (H++al)=To (Xi H) H.length al
 |[],H=>by simp[To]
 |b::bs,H=>by
  have:=HFof_al bs (H++[b])
  rw[Zq,ZX]at this
  rw[this]
  simp only[To,Zm,ZT]
  congr 1
  funext x
  simp only[Xi,List.getElem?_append]
  by_cases e:x=H.length
  ·subst e;simp
  ·by_cases e2:x<H.length
   ·simp[e,e2]
   ·simp only[e,e2,if_false]
    rw[Ys (by simp;omega),Ys (by omega)]
theorem SO (H al:List Blk):addAl H al=H++al:=by cases al<;>simp[addAl]
theorem evOp_wr (E:Oracle)(base:Nat)(op:XOp)(vs:List DV)(h:HF)(n:Nat)(r:Res)(hr:XG E base op vs h n=some r):∀q∈r.wr,∃b,h q.1=some b:=by
 have pure:∀f dv,Wc E h f dv=some r->∀q∈r.wr,∃b,h q.1=some b:=by
  intro f dv hp
  unfold Wc at hp
  split at hp
  ·split at hp
   ·split at hp
    ·simp only[Yp]at hp
     split at hp<;>simp only[Za]at hp<;>subst hp
     ·simp
     ·intro q hq
      obtain⟨id,_,hid⟩:=List.mem_filterMap.1 hq
      cases hb:h id with
      |none=>simp[hb]at hid
      |some b=>simp only[hb,ZS,Za]at hid;subst hid;exact⟨b,hb⟩
    ·simp at hp
   ·simp at hp
  ·simp at hp
 cases op with
 |call f=>exact pure f vs hr
 |callV=>
  simp only[XG,V6]at hr
  split at hr
  ·exact pure _ _ hr
  ·exact pure _ _ hr
  ·simp at hr
 |store sz=>
  simp only[XG,TO]at hr
  split at hr
  ·split at hr
   ·rename_i b hb
    split at hr
    ·simp only[SQ]at hr
     obtain⟨_,hr⟩:=XA hr
     split at hr
     ·obtain⟨_,rfl⟩:=Xk hr
      intro q hq;simp at hq;subst hq;exact⟨b,hb⟩
     ·simp at hr
    ·simp at hr
   ·simp at hr
  ·simp at hr
 |append e sz bytes=>
  simp only[XG,Wk]at hr
  split at hr
  ·split at hr
   ·obtain⟨_,hr⟩:=XA hr
    split at hr
    ·simp only[X8]at hr
     obtain⟨_,hr⟩:=XA hr
     split at hr<;>simp only[Za]at hr<;>subst hr<;>simp
    ·split at hr
     ·rename_i b hb
      rw[Yp]at hr
      split at hr
      ·simp only[VX]at hr
       obtain⟨_,rfl⟩:=Xk hr
       intro q hq;simp at hq;subst hq;exact⟨b,hb⟩
      ·simp only[Tg]at hr
       obtain⟨_,rfl⟩:=Xk hr
       intro q hq;simp at hq;subst hq;exact⟨b,hb⟩
     ·simp at hr
    ·simp at hr
   ·simp at hr
  ·simp at hr
 |clear z=>
  simp only[XG,TR]at hr
  split at hr
  ·split at hr
   ·rename_i b hb
    obtain⟨_,rfl⟩:=Xk hr
    intro q hq;simp at hq;subst hq;exact⟨b,hb⟩
   ·simp at hr
  ·simp at hr
 |copy sz=>
  simp only[XG,S5]at hr
  split at hr
  ·split at hr
   ·rename_i b hb
    split at hr
    ·simp only[copyIn]at hr
     obtain⟨_,rfl⟩:=Xk hr
     intro q hq;simp at hq;subst hq;exact⟨b,hb⟩
    ·simp at hr
   ·simp at hr
  ·simp at hr
 |lookup klen k agg z ok=>
  have hnil:r.wr=[]:=by
   simp only[XG,TE,lookIn,Yp]at hr
   (repeat' split at hr)<;>simp only[Za,reduceCtorEq]at hr<;>subst hr<;>rfl
  rw[hnil];simp
 |mapUpdate klen k agg vsz=>
  simp only[XG,VL]at hr
  split at hr
  ·split at hr
   ·rename_i b hb
    split at hr
    ·obtain⟨_,hr⟩:=XA hr
     unfold updIn at hr
     split at hr<;>simp only[Za,reduceCtorEq]at hr<;>subst hr<;>(intro q hq;simp at hq;subst hq;exact⟨b,hb⟩)
    ·simp at hr
   ·simp at hr
  ·simp at hr
 |_=>
  have hnil:r.wr=[]:=by
   simp only[XG,opMove,UH,opPick,opBox,TS,S6,WW,S3,opBin,opBinB,WX,WY,opUn,opConv,Vg,WH,U7,W8,Us,S4,TP,UJ,TQ,opLenA,Vf,Uc,Vj,UI,U6,Su,Yp]at hr
   (repeat' split at hr)<;>simp only[Za,reduceCtorEq]at hr<;>subst hr<;>rfl
  rw[hnil];simp
section
variable {lo:Nat}{P:Program}{O:BS}{w:World}{μ:Nat->Nat}{n:Nat}
theorem guard_ok {nt:Nat}{h:HF}{a:Act}{T:List (Nat×DV)}(hsl:Slots lo nt O w μ h a T)(ops:List Oper)(g:Option (Nat×Bool))(g':Option (Nat×Bool))(hg:UO ops g=some g')(b:Bool)(hb:VC T g'=some b)(o:Oper)(ho:o.guard=g):
  Region.wanted o (yielded ops.toArray a.tmps)=b:=by
 cases g with
 |none=>
  simp only[UO,Za]at hg;subst hg
  simp only[VC,Za]at hb;subst hb
  simp[Region.wanted,ho]
 |some q=>
  obtain⟨j,want⟩:=q
  simp only[UO]at hg
  cases hj:ops[j]? with
  |none=>simp[hj]at hg
  |some go=>
  simp only[hj]at hg
  cases hd:go.dst with
  |none=>simp[hd]at hg
  |some d=>
  simp only[hd,Za]at hg;subst hg
  simp only[VC]at hb
  have hy:yielded ops.toArray a.tmps j=match a.tmps[d]? with |some (.bool c)=>some c|_=>none:=by
   simp[yielded,hj,hd];rfl
  simp only[Region.wanted,ho,hy]
  split at hb
  ·rename_i c hc
   simp only[Za]at hb;subst hb
   have:=(hsl.slot d _ hc).Tc
   rw[ZF]at this
   cases hq:a.tmps[d]? with
   |none=>rw[hq]at this;simp[undef]at this
   |some u=>rw[hq]at this;simp at this;subst this;simp
  ·rename_i hc
   simp only[Za]at hb;subst hb
   obtain⟨xs,hx,hn⟩:=hsl.slot d _ hc
   cases hn
   rw[ZF]at hx
   cases hq:a.tmps[d]? with
   |none=>simp
   |some u=>rw[hq]at hx;simp at hx;subst hx;simp
  ·simp at hb
theorem evOper_wp (E:Oracle)(hE:OracleOk P E)(base:Nat)(heap:Bool){nt:Nat}(ops:List Oper){o:Oper}{xo:XOper}(hc:Vp P nt ops o=some xo){a:Act}{s s':St}{rd wr:List Nat}
  (hr:Wi E base heap xo s=some (s',rd,wr)) (hI:HInv w O μ (Xi s.H)) (hsl:Slots lo nt O w μ (Xi s.H) a s.T) {next:Act->World->Prop} {Q:Exit->Act->World->Prop}
  (hk:∀a' w' μ',HInv w' O μ' (Xi s'.H)->Slots lo nt O w' μ' (Xi s'.H) a' s'.T->Mono O w μ (Xi s.H) w' μ' (Xi s'.H)->next a' w'):
  (Region.wanted o (yielded ops.toArray a.tmps)=true/\o.wp P a w next Q)\/(Region.wanted o (yielded ops.toArray a.tmps)=false/\next (a.put o.dst undef) w):=by
 unfold Vp at hc
 cases hop:Xv P o.op with
 |none=>simp[hop]at hc
 |some q=>
 obtain⟨op,args⟩:=q
 simp only[hop]at hc
 cases hg:UO ops o.guard with
 |none=>simp[hg]at hc
 |some g=>
 simp only[hg]at hc
 split at hc<;>simp only[Za,reduceCtorEq]at hc
 rename_i hdst
 subst hc
 unfold Wi at hr
 simp only at hr
 cases hgo:VC s.T g with
 |none=>simp[hgo]at hr
 |some b=>
 have hwant:=guard_ok hsl ops o.guard g hg b hgo o rfl
 cases b with
 |false=>
  simp only[hgo,Up,Za,Zl]at hr
  obtain⟨rfl,_,_⟩:=hr
  right
  exact⟨hwant,hk _ w μ hI (hsl.put o.dst hdst undef (.tup []) ⟨[],rfl,.nil⟩) (Mono.refl _ _ _ _)⟩
 |true=>
  simp only[hgo]at hr
  left
  refine⟨hwant,?_⟩
  cases hT:Xl (XOpd.eval s.T) args with
  |none=>simp[hT]at hr
  |some ds=>
  simp only[hT]at hr
  cases hh:(heap&&Xr E op ds)with
  |false=>
   simp only[hh,cond_false]at hr
   cases hev:XG E base op ds (Xi s.H) s.H.length with
   |none=>simp[hev]at hr
   |some r=>
   simp only[hev,SD,valK_eq,Up,wrK_eq,alK_eq,Za,Zl]at hr
   obtain⟨rfl,_,_⟩:=hr
   have hwr:=evOp_wr E base op ds _ _ r hev
   obtain⟨hw1,hw2⟩:=HFof_wr r.wr s.H (fun q hq=>by
    obtain⟨b,hb⟩:=hwr q hq
    simp only[Xi]at hb
    exact(Zb.1 hb).1)
   have hH:Xi (addAl (WM s.H r.wr) r.al)=upd (Xi s.H) s.H.length r:=by
    rw[SO,HFof_al,hw1,hw2];rfl
   refine evOp_wp E hE base hop hsl ds hT r hev (fun _=>by simp[Xi]) hI fun v w' μ' h1 h2 h3=> ?_
   rw[<-hH]at h1 h2 h3
   exact hk _ w' μ' h2 ((hsl.mono h3).put o.dst hdst v r.val h1) h3
  |true=>
   simp only[hh,cond_true,SC]at hr
   rw[Zo]at hh
   have fin:∀(f:Nat) (vs:List Value) (dv:List DV),(Ent P f->(execOp a.eval o).run P w=.ok (.enter f vs.toArray) w)->All2 (Xo w O μ (Xi s.H)) vs dv->Wq E o.dst f dv s=some (s',rd,wr)->o.wp P a w next Q:=by
    intro f vs dv hrun hall hr
    unfold Wq at hr
    cases hm:E.mode f with
    |pure=>simp[hm]at hr
    |heap=>
     simp only[hm]at hr
     cases he:E.heap f dv s.H with
     |none=>simp[he]at hr
     |some q=>
     obtain⟨v,H2⟩:=q
     simp only[he,Up,Za,Zl]at hr
     obtain⟨rfl,_,_⟩:=hr
     obtain⟨hch,hent⟩:=hE.heap f dv s.H v H2 he
     unfold Oper.wp
     rw[hrun hent,Oper.upon_enter]
     refine(hch w O μ _ hI hall).mono fun e w' ⟨u,μ',he,h1,h2,h3⟩=> ?_
     subst he
     exact hk _ w' μ' h2 ((hsl.mono h3).put o.dst hdst u v h1) h3
   have hx2:Tq op=true:=by
    have:=hh.2
    unfold Xr at this
    split at this
    ·rfl
    ·rfl
    ·simp at this
   obtain⟨c,hoc⟩:=compOp_call hop hx2
   obtain⟨callee,cargs,tys⟩:=c
   rw[hoc]at hop
   simp only[Xv]at hop
   cases hxs:SK cargs with
   |none=>simp[hxs]at hop
   |some xs=>
   simp only[hxs]at hop
   have hargs:∀ds,Xl (XOpd.eval s.T) xs=some ds->All2 (Xo w O μ (Xi s.H)) (cargs.toList.map a.eval) ds:=fun ds hds=>all2_map a.eval (VN (fun p=>p) s.T a.eval (fun x xo d=>hsl.eval x xo d) _ _ _ hxs hds)
   have viaV:∀x x',Xm x=some x'->op=.callV->args=x'::xs->o.op=.call ⟨.value x,cargs,tys⟩->o.wp P a w next Q:=by
    intro x x' hx hxo hxa ho
    subst hxo;subst hxa
    obtain⟨d,ds',hd,hds',rfl⟩:=map_cons hT
    have hxr:=hsl.eval _ _ _ hx hd
    have ha:=hargs ds' hds'
    simp only at hr
    split at hr
    ·rename_i f caps vs heq
     simp only[ZI]at heq;obtain⟨rfl,rfl⟩:=heq
     have hxr':RepD w O μ (Xi s.H) (a.eval x) (.p (.fn f caps)):=hxr
     generalize hv:a.eval x=v at hxr'
     cases hxr' with
     |p _ _ hp=>cases hp with
      |fn _ _ cv hl hcap=>
       refine fin (fnF f) _ _ (fun he=>run_callv x cargs tys ho f cv hv he) (fnA_all2 f ha ?_) hr
       refine All2.Vk (by simpa using hl) fun i u y hu hy=> ?_
       rw[Zv]at hy
       cases hcc:caps[i]? with
       |none=>simp[hcc]at hy
       |some l=>simp only[hcc,ZS,Za]at hy;subst hy;exact RepD.p _ _ (hcap i l u hcc hu)
    ·rename_i f caps vs heq
     simp only[ZI]at heq;obtain⟨rfl,rfl⟩:=heq
     have hxr':RepD w O μ (Xi s.H) (a.eval x) (.fn f caps):=hxr
     generalize hv:a.eval x=v at hxr'
     cases hxr' with
     |fn _ _ cv hl hcap=>
       refine fin (fnF f) _ _ (fun he=>run_callv x cargs tys ho f cv hv he) (fnA_all2 f ha ?_) hr
       refine All2.Vk (by simpa using hl) fun i u y hu hy=> ?_
       rw[Zv]at hy
       cases hcc:caps[i]? with
       |none=>simp[hcc]at hy
       |some l=>simp only[hcc,ZS,Za]at hy;subst hy;exact hcap i l u hcc hu
    ·simp at hr
   cases callee with
   |invoke _ _=>simp at hop
   |builtin b=>
    simp only at hop
    cases hb:Xu P b tys with
    |none=>simp[hb]at hop
    |some bop=>
     simp only[hb,Za,Zl]at hop
     obtain⟨rfl,_⟩:=hop
     exfalso
     unfold Xu at hb
     (repeat' split at hb)<;>simp only[Za,reduceCtorEq]at hb<;>subst hb<;>simp[Tq]at hx2
   |value x=>
    cases x with
    |func g=>
     simp only[Za,Zl]at hop
     obtain⟨rfl,rfl⟩:=hop
     exact fin g _ ds (fun he=>run_callf cargs tys g hoc he) (hargs ds hT) hr
    |tmp q=>
     simp only[Xm,Za,Zl]at hop
     exact viaV (.tmp q) (.t q) rfl hop.1.symm hop.2.symm hoc
    |const q=>
     simp only at hop
     cases hq:Xm (.const q)with
     |none=>simp[hq]at hop
     |some q'=>
      simp only[hq,Za,Zl]at hop
      exact viaV (.const q) q' hq hop.1.symm hop.2.symm hoc
    |global q=>simp[Xm]at hop
def Vc (F:Fence):Prop:=F=Fence.wide\/∃l,F=Fence.wide.inRound l
theorem Vc.fn {F:Fence}(hF:Vc F)(f:FuncId):F.fn f:=by rcases hF with rfl|⟨l,rfl⟩<;>trivial
theorem Vc.depth {F:Fence}(hF:Vc F):F.depth.isSome=false:=by rcases hF with rfl|⟨l,rfl⟩<;>rfl
theorem Vc.calls {F:Fence}(hF:Vc F){n:Nat}{f:FuncId}{args:Array Value}{w:World}{R:Ending->World->Prop}(h:Calls P f args w R):CallsIn F n P f args w R:=by
 rcases hF with rfl|⟨l,rfl⟩
 ·exact callsIn_wide.2 h
 ·exact CallsIn.inRound l (callsIn_wide.2 h)
theorem Vc.rows {F:Fence}(hF:Vc F){n:Nat}{row:String}{args:Array Value}{w:World}{R:Value->World->Prop}(h:Rows P row args w R):RowsIn F n P row args w R:=by
 intro c cs _
 obtain⟨v,w',r,s⟩:=h c cs
 rcases hF with rfl|⟨l,rfl⟩
 ·exact⟨v,w',r,stepsIn_wide.2 s⟩
 ·exact⟨v,w',r,stepsIn_wide.2 s⟩
theorem UA {op:Op}{q:XOp×List XOpd}(h:Xv P op=some q):∀c,op≠.defer c:=by
 intro c e;subst e;simp[Xv]at h
theorem oper_in {F:Fence}(hF:Vc F){n:Nat}{o:Oper}{a:Act}{next:Act->World->Prop}{Q:Exit->Act->World->Prop}(hnd:∀c,o.op≠.defer c)(h:o.wp P a w next Q):o.wpIn F n P a w next Q:=by
 refine⟨fun f _=>hF.fn f,?_⟩
 rw[Oper.semAt_eq _ _ _ hnd]
 unfold Oper.wp at h
 generalize (execOp a.eval o).run P w=r at h⊢
 cases r with
 |ok nx w'=>cases nx with
  |enter f args=>exact⟨by rw[hF.depth];simp,hF.calls h⟩
  |row r args=>exact⟨by rw[hF.depth];simp,hF.rows h⟩
  |round l f tmps as bd=>exact absurd h (fun h=>h)
  |_=>exact h
 |halt x w'=>cases x<;>exact h
theorem evOps_wp (E:Oracle)(hE:OracleOk P E){F:Fence}(hF:Vc F)(n base:Nat){nt:Nat}(ops:List Oper){Q:Exit->Act->World->Prop}:∀(l:List Oper) (xl:List XOper),Xl (Vp P nt ops) l=some xl->∀(s s':St) (a:Act) (w:World) (μ:Nat->Nat),Vi E base xl s=some s'->
  HInv w O μ (Xi s.H)->Slots lo nt O w μ (Xi s.H) a s.T->
  (∀a' w' μ',HInv w' O μ' (Xi s'.H)->Slots lo nt O w' μ' (Xi s'.H) a' s'.T->Mono O w μ (Xi s.H) w' μ' (Xi s'.H)->Q .normal a' w')->wpListIn F n P ops.toArray Q l a w
 |[],xl,hx,s,s',a,w,μ,hr,hI,hsl,hk=>by
  rw[map0 hx]at hr
  simp only[Vi,Za]at hr;subst hr
  exact hk a w μ hI hsl (Mono.refl _ _ _ _)
 |o::l,xl,hx,s,s',a,w,μ,hr,hI,hsl,hk=>by
  obtain⟨xo,xl',hxo,hxl,rfl⟩:=map_cons hx
  simp only[Vi]at hr
  cases he:Wi E base true xo s with
  |none=>simp[he]at hr
  |some q=>
  obtain⟨s1,rd,wr⟩:=q
  simp only[he]at hr
  have:=evOper_wp (O:=O) (w:=w) (μ:=μ) E hE base true ops hxo he hI hsl (next:=wpListIn F n P ops.toArray Q l) (Q:=Q) fun a' w' μ' h1 h2 h3=>
   evOps_wp E hE hF n base ops l xl' hxl s1 s' a' w' μ' hr h1 h2 fun a2 w2 μ2 g1 g2 g3=>hk a2 w2 μ2 g1 g2 (h3.trans g3)
  have hnd:∀c,o.op≠.defer c:=by
   unfold Vp at hxo
   cases hop:Xv P o.op with
   |none=>simp[hop]at hxo
   |some q=>exact UA hop
  unfold wpListIn
  rcases this with⟨h1,h2⟩|⟨h1,h2⟩
  ·rw[if_pos h1];exact oper_in hF hnd h2
  ·rw[if_neg (by rw[h1];simp)];exact⟨fun f _=>hF.fn f,h2⟩
end
end Go.Ev
namespace Go.Ev
open Go.RowKit
section
variable {lo:Nat}{P:Program}{O:BS}{w w':World}{μ:Nat->Nat}{h:HF}
structure SameData (w w':World):Prop where
 size:w.heap.size<=w'.heap.size
 cells:∀(b:Nat) (C:Array Value) (T:TypeId) (z:Nat×Nat),w.heap[b]? =some (.cells C T z)->w'.heap[b]? =some (.cells C T z)
 maps:∀(b:Nat) (es:Array MapEntry) (clk:Nat),w.heap[b]? =some (.map es clk)->w'.heap[b]? =some (.map es clk)
 dull:∀(b:Nat) (o:Obj),w.heap[b]? =some o->Dull o->∃o',w'.heap[b]? =some o'/\Dull o'
theorem SameData.cell (s:SameData w w'){a:Addr}{v:Value}(hc:w.cell? a=some v):w'.cell? a=some v:=by
 unfold World.cell? at hc⊢
 cases ho:w.heap[a.block]? with
 |none=>simp[ho]at hc
 |some o=>
  cases o with
  |cells C T z=>rw[ho]at hc;rw[s.cells _ C T z ho];exact hc
  |_=>simp[ho]at hc
theorem RepP.same (s:SameData w w'){L:BS}{v:Value}{l:PL}(r:RepP w L v l):RepP w' L v l:=by
 induction r with
 |bool b=>exact .bool b
 |int a n=>exact .int a n
 |nilS=>exact .nilS
 |str x=>exact .str x
 |junk v h=>exact .junk v h
 |fn f caps cv hl hc ih=>exact .fn f caps cv hl ih
 |ref b off cs vals ho hc hr ih=>exact .ref b off cs vals ho (fun j d hj=>s.cell (hc j d hj)) ih
 |lst b off sz cap es vals ho hcap hs hc hr hsp ih=>exact .lst b off sz cap es vals ho hcap hs (fun i c j d hi hj=>s.cell (hc i c j d hi hj)) ih hsp
theorem RepD.same (s:SameData w w'){v:Value}{l:DL}(r:RepD w O μ h v l):RepD w' O μ h v l:=by
 induction r with
 |p v l hp=>exact .p v l (hp.same s)
 |own id ver off len b g o cap hb hv hl hs=>
  refine .own id ver off len b g o cap hb hv hl fun e=> ?_
  obtain⟨h1,C,T,hC,hd⟩:=hs e
  exact⟨h1,C,T,s.cells _ _ _ _ hC,hd⟩
 |ptr id ver i off b g o hb hv hs=>exact .ptr id ver i off b g o hb hv hs
 |fn f caps cv hl hc ih=>exact .fn f caps cv hl ih
 |mp id b hb hm=>exact .mp id b hb hm
theorem WS.same (s:SameData w w'){v:Value}{d:DV}(r:WS w O μ h v d):WS w' O μ h v d:=by
 cases d with
 |one l=>exact RepD.same s r
 |agg cs=>obtain⟨xs,hv,ha⟩:=r;exact⟨xs,hv,ha.imp fun _ _=>RepD.same s⟩
 |tup ds=>exact r
theorem Xo.same (s:SameData w w'){v:Value}{d:DV}(r:Xo w O μ h v d):Xo w' O μ h v d:=by
 cases d with
 |one l=>exact WS.same (d:=.one l) s r
 |agg cs=>exact WS.same (d:=.agg cs) s r
 |tup ds=>obtain⟨xs,hv,ha⟩:=r;exact⟨xs,hv,ha.imp fun _ _=>WS.same s⟩
theorem X9.same (s:SameData w w'){id:Nat}{b:Blk}(hb:X9 w O μ h id b):X9 w' O μ h id b:=by
 unfold X9 at hb⊢
 cases hm:b.mp
 ·rw[hm]at hb
  simp only[Zs,if_false]at hb⊢
  obtain⟨C,hC,hl,hc⟩:=hb
  refine⟨C,s.cells _ _ _ _ hC,hl,fun i c hi=>⟨(hc i c hi).1,fun j d hj=> ?_⟩⟩
  obtain⟨v,hv,hr⟩:=(hc i c hi).2 j d hj
  exact⟨v,hv,hr.same s⟩
 ·rw[hm]at hb
  simp only[if_true]at hb⊢
  cases hty:Nat.beq b.ty 2
  case true=>
   rw[hty,if_pos rfl]at hb
   rw[if_pos rfl]
   obtain⟨o,ho,hd⟩:=hb
   exact s.dull _ o ho hd
  rw[hty,if_neg (by simp)]at hb
  rw[if_neg (by simp)]
  obtain⟨es,clk,hC,hv,ha⟩:=hb
  exact⟨es,clk,s.maps _ _ _ hC,hv,ha.imp fun x c ⟨kv,xv,h1,h2,h3,h4⟩=>⟨kv,xv,h1,h2,h3,h4.imp fun _ _=>RepD.same s⟩⟩
theorem HInv.same (s:SameData w w')(hI:HInv w O μ h):HInv w' O μ h:=
 ⟨fun id b hb=>(hI.blk id b hb).same s,hI.inj,hI.disj,fun b hb=>ZQ (hI.lt b hb) s.size⟩
theorem VJ {l:Nat}{o:Obj}(hl:w.heap[l]? =some o)(hd:Dull o){o':Obj}(hd':Dull o'):SameData w (w.putObj l o'):=by
 have hlt:l<w.heap.size:=(ZW.1 hl).1
 refine⟨by simp[World.putObj],fun b C T z hb=> ?_,fun b es clk hb=> ?_,fun b x hb hx=> ?_⟩
 ·have :b≠l:=fun e=>by rw[e,hl]at hb;cases hb;exact hd.1 _ _ _ rfl
  rw[World.putObj_heap_other this];exact hb
 ·have :b≠l:=fun e=>by rw[e,hl]at hb;cases hb;exact hd.2 _ _ rfl
  rw[World.putObj_heap_other this];exact hb
 ·by_cases e:b=l
  ·subst e;exact⟨o',World.putObj_heap_same hlt,hd'⟩
  ·exact⟨x,by rw[World.putObj_heap_other e];exact hb,hx⟩
theorem Ue {W:World}{μ':Nat->Nat}{h':HF}(hI:HInv w O μ h)(m:Mono O w μ h W μ' h'){l:Nat}(hlw:w.heap.size<=l)(o':Obj):Mono O w μ h (W.putObj l o') μ' h':=by
 have hne:∀b,b<w.heap.size->(W.putObj l o').heap[b]? =W.heap[b]? :=fun b hb=>World.putObj_heap_other (fun e=>by omega)
 refine⟨m.os,m.tape,m.output,⟨by simp only[World.putObj,Array.size_setIfInBounds];exact m.keeps.size,fun b hb hl=>(hne b hb).trans (m.keeps.keep b hb hl),m.keeps.live⟩,fun b hb=>(hne b (hI.lt b hb)).trans (m.okeep b hb),fun id b hb=> ?_,m.maps⟩
 obtain⟨b',h1,h2,h3,h4⟩:=m.ids id b hb
 refine⟨b',h1,h2,h3,fun e=> ?_⟩
 obtain⟨g1,g2,g3⟩:=h4 e
 refine⟨g1,g2,fun C T hC=> ?_⟩
 obtain⟨C',k1,k2⟩:=g3 C T hC
 exact⟨C',(hne _ (hI.lt_size hb)).trans k1,k2⟩
theorem Slots.same {nt:Nat}{a:Act}{T:List (Nat×DV)}(s:Slots lo nt O w μ h a T){l:Nat}{o:Obj}(hl:w.heap[l]? =some o)(hd:Dull o)(hnd:∀x,o≠.deferred x){o':Obj}(hd':Dull o'):Slots lo nt O (w.putObj l o') μ h a T:=by
 have sd:=VJ hl hd hd'
 refine⟨⟨ZC s.dfr.1 sd.size,s.dfr.2.1,fun d hd'=> ?_⟩,s.sz,fun t d ht=>(s.slot t d ht).same sd⟩
 obtain⟨D,h1,h2,h3,h4⟩:=s.dfr.2.2 d hd'
 refine⟨D,h1,h2,?_,h4⟩
 have :D≠l:=fun e=>by rw[e,hl]at h3;cases h3;exact hnd _ rfl
 rw[World.putObj_heap_other this];exact h3
end
end Go.Ev
