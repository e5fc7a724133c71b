/- Code: the interpreter's run gives the weakest precondition. -/
import Derived.Test.YtefpgecinlekpaaGreatEvSeq
import Derived.LoopN
import Derived.Scope
namespace Go.Ev
open Go.RowKit
section
variable {lo:Nat}{P:Program}{O:BS}
def Ca:Ex->Exit
 | .normal=>.normal
 | .exit id=>.exit id
 | .ret=>.ret
def OC (P:Program)(E:Xb):Prop:=
 ∀(F:Fence) (n:Nat),V7 F->∀(O:BS) (lo base nt id:Nat) (ops:Array Oper) (os pre suf:List Xx),Xt (Up P nt ops.toList) ops.toList=some os->gg (WD [] os)=true->WD [] os=pre++suf->TJ pre.length suf=true->
  ∀(s s1 s':St),Uz E base pre s=some s1->Uf E base suf s1=some s'->∀(a:Act) (w:World) (μ:Nat->Nat),
  X4 w O μ (Xl s.H)->Ww lo nt O w μ (Xl s.H) a s.T->∀(Q:Exit->Act->World->Prop),
  (∀a' w' μ',X4 w' O μ' (Xl s'.H)->Ww lo nt O w' μ' (Xl s'.H) a' s'.T->Wo O w μ (Xl s.H) w' μ' (Xl s'.H)->Q .normal a' w')->(Code.region id ops true).wpIn F n P Q a w
theorem RH {b:Type}(T:List (Nat×DV)):∀(a:List Nat) (k:List (Nat×DV)->b),oq T a k=k (VK T a)
 |[],_=>rfl
 |n::ns,k=>by
  simp only[oq,VK];cases Xh T n with
  |none=>exact RH T ns k
  |some v=>exact RH T ns _
theorem RL (T:List (Nat×DV)):∀(b:List Nat) (t:Nat) (d:DV),Xh (VK T b) t=some d->Xh T t=some d
 |[],t,d,h=>by simp[VK,Xh]at h
 |n::ns,t,d,h=>by
  simp only[VK]at h;cases a:Xh T n with
  |none=>simp only[a]at h;exact RL T ns t d h
  |some v=>
   simp only[a,Uv]at h;by_cases e:n=t
   ·subst e;rw[if_pos rfl]at h;rw[a];exact h
   ·rw[if_neg e]at h;exact RL T ns t d h
theorem gv (E:Xb)(a:Nat):∀(b:List Xx) (s:St),Uf E a (b.map Xx.bare) s=Uf E a b s
 |[],_=>rfl
 |o::b,s=>by
  simp only[Zw,Uf,gv E a b];rfl
def rW (P:Program)(E:Xb)(K base nt:Nat)(O:BS)(F:Fence)(n lo:Nat)(xc:XE):Prop:=
 ∀(c:Code),XO P nt c=some xc.erase->∀(s:St) (ex:Ex) (s':St),XD E K base xc s=some (ex,s')->∀(a:Act) (w:World) (μ:Nat->Nat),X4 w O μ (Xl s.H)->Ww lo nt O w μ (Xl s.H) a s.T->
  ∀(Q:Exit->Act->World->Prop),(∀a' w' μ',X4 w' O μ' (Xl s'.H)->Ww lo nt O w' μ' (Xl s'.H) a' s'.T->Wo O w μ (Xl s.H) w' μ' (Xl s'.H)->Q (Ca ex) a' w')->c.wpIn F n P Q a w
def Eu (P:Program)(E:Xb)(K base nt:Nat)(xc:XE):Prop:=
 ∀(O:BS) (F:Fence) (n lo:Nat),V7 F->(F=Fence.wide\/xc.flat=true)->rW P E K base nt O F n lo xc
theorem Uq {i:Nat}{c:Code}{x:XE}(e:XO P i c=some x):
  match x with
  | .skip=>c=.skip\/∃l,c=.label l
  | .region d r=>∃id g k,c=.region id g d/\Xt (Up P i g.toList) g.toList=some k/\(d=true->gg (WD [] k)=true/\r=WD [] k)/\(d=false->r=k.map Xx.bare)
  | .seq h o=>∃a b,c=.seq a b/\XO P i a=some h/\XO P i b=some o
  | .cond q h o=>∃p a b,c=.cond p a b/\XA p=some q/\XO P i a=some h/\XO P i b=some o
  | .block id h=>∃a,c=.block id a/\XO P i a=some h
  | .loop h=>∃a,c=.loop a/\XO P i a=some h
  | .scope h=>∃a,c=.scope a/\XO P i a=some h
  | .exit id=>c=.exit id
  | .ret=>c=.ret
  | .PJ q u h o=>∃p n a b,c=.rangeFunc p n a b/\u=n.toList/\(∀v∈u,v<i)/\XA p=some q/\XO P i a=some h/\XO P i b=some o
  | .Re _ _=>False
  | .V2 _ _=>False:=by
 cases c with
 |skip=>simp only[XO,Za]at e;subst e;exact .inl rfl
 |label l=>simp only[XO,Za]at e;subst e;exact .inr ⟨l,rfl⟩
 |region id g d=>
  simp only[XO]at e;cases s:Xt (Up P i g.toList) g.toList with
  |none=>simp[s]at e
  |some r=>
  simp only[s]at e;cases d with
  |false=>simp only[Zz,if_false,Za]at e;subst e;exact⟨id,g,r,rfl,s,by simp,fun _=>rfl⟩
  |true=>
   simp only[if_true]at e;split at e<;>simp only[Za,reduceCtorEq]at e;rename_i A;subst e;exact⟨id,g,r,rfl,s,fun _=>⟨A,rfl⟩,by simp⟩
 |seq a b=>
  simp only[XO]at e;split at e<;>simp only[Za,reduceCtorEq]at e;rename_i h o j t;subst e;exact⟨a,b,rfl,j,t⟩
 |cond p a b=>
  simp only[XO]at e;split at e<;>simp only[Za,reduceCtorEq]at e;rename_i q h o B j t;subst e;exact⟨p,a,b,rfl,B,j,t⟩
 |block id a=>
  simp only[XO]at e;split at e<;>simp only[Za,reduceCtorEq]at e;rename_i h j;subst e;exact⟨a,rfl,j⟩
 |loop a=>
  simp only[XO]at e;split at e<;>simp only[Za,reduceCtorEq]at e;rename_i h j;subst e;exact⟨a,rfl,j⟩
 |rangeFunc f v a b=>
  simp only[XO]at e;split at e
  ·rename_i q h o w y z;split at e<;>simp only[Za,reduceCtorEq]at e;rename_i C;subst e;exact⟨f,v,a,b,rfl,rfl,fun x D=>RS (ZP.1 C x D),w,y,z⟩
  ·simp at e
 |exit id=>simp only[XO,Za]at e;subst e;rfl
 |scope a=>
  simp only[XO]at e;split at e<;>simp only[Za,reduceCtorEq]at e;rename_i h j;subst e;exact⟨a,rfl,j⟩
 |goto l=>simp[XO]at e
 |ret=>simp only[XO,Za]at e;subst e;rfl
 |refuse m=>simp[XO]at e
theorem NZ:∀(a:List Nat) (b:List PV) (T c:List (Nat×DV)),Qx a b T=some c->a.length=b.length
 |[],[],_,_,_=>rfl
 |[],_::_,_,_,h=>by simp[Qx]at h
 |_::_,[],_,_,h=>by simp[Qx]at h
 |_::vs,_::b,_,c,h=>by simp only[Qx]at h;simp[NZ vs b _ c h]
theorem cG {w:World}{μ:Nat->Nat}{h:HF}{nt:Nat}:∀(a:List Nat) (g:List PV) (T b:List (Nat×DV)) (tmps:Array Value) (f:List Value),Qx a g T=some b->(∀v∈a,v<nt)->XF (fun v x=>XC w O μ h v (inj x)) f g->tmps.size=nt->
  (∀t d,Xh T t=some d->XC w O μ h (tmps.getD t undef) d)->((a.zip f).foldl (fun t (q:Nat×Value)=>t.setIfInBounds q.1 q.2) tmps).size=nt/\
   ∀t d,Xh b t=some d->XC w O μ h (((a.zip f).foldl (fun t (q:Nat×Value)=>t.setIfInBounds q.1 q.2) tmps).getD t undef) d
 |[],[],T,b,tmps,f,hs,_,_,hsz,hT=>by
  simp only[Qx,Za]at hs;subst hs;simp only[List.zip_nil_left,List.foldl_nil];exact⟨hsz,hT⟩
 |[],_::_,_,_,_,_,hs,_,_,_,_=>by simp[Qx]at hs
 |_::_,[],_,_,_,_,hs,_,_,_,_=>by simp[Qx]at hs
 |p::a,x::g,T,b,tmps,f,hs,hlt,hall,hsz,hT=>by
  cases hall with
  |@cons v _ i _ j k=>
  simp only[Qx]at hs;simp only[List.zip_cons_cons,List.foldl_cons];refine cG a g _ b _ i hs (fun q m=>hlt q (by simp[m])) k (by simpa using hsz) fun t d c=> ?_
  simp only[Uv]at c;have l:p<tmps.size:=by rw[hsz];exact hlt p (by simp)
  by_cases e:p=t
  ·subst e;rw[if_pos rfl]at c;cases c;rw[ZL,YC l];exact j
  ·rw[if_neg e]at c;rw[ZL,Array.getElem?_setIfInBounds_ne e,<-ZL];exact hT t d c
theorem uq (a:Array Nat)(b:List Value)(tmps:Array Value):(a.zip b.toArray).foldl (fun t (q:Nat×Value)=>t.setIfInBounds q.1 q.2) tmps=(a.toList.zip b).foldl (fun t (q:Nat×Value)=>t.setIfInBounds q.1 q.2) tmps:=by
 rw[<-Array.foldl_toList,Array.toList_zip]
theorem Bg {E:Xb}{K u nt:Nat}{a2 body:XE}(e3:∀(l n:Nat),rW P E K u nt O (Fence.wide.inRound l) n 0 a2)(e2:∀(l n:Nat),rW P E K u nt O (Fence.wide.inRound l) n 0 body)
  (p:Operand) (y:Array Tmp) (ca cb:Code) (d8:∀v∈y.toList,v<nt) (f:W8) (hp:XA p=some f) (d1:XO P nt ca=some a2.erase) (d2:XO P nt cb=some body.erase)
  (gf:Nat) (G:List PL) (a4:List (List PV)) (d4:Nat.blt gf NL=true) (b2:rT P gf G a4) (b5:l9 P gf) (s:St) (ex:Ex) (s':St) (hq:f.eval s.T=some (.one (.p (.fn gf G))))
  (hr:UX s.T (TO (fun s=>XD E K u a2 s) (fun s=>XD E K u body s)) y.toList a4 s.H=some (ex,s')) (n lo:Nat) (a:Act) (w:World) (μ:Nat->Nat) (hI:X4 w O μ (Xl s.H)) (a7:Ww lo nt O w μ (Xl s.H) a s.T)
  (Q:Exit->Act->World->Prop) (hk:∀M w' j,X4 w' O j (Xl s'.H)->Ww lo nt O w' j (Xl s'.H) M s'.T->Wo O w μ (Xl s.H) w' j (Xl s'.H)->Q (Ca ex) M w'):(Code.rangeFunc p y ca cb).wpIn Fence.wide n P Q a w:=by
 refine wpIn_rangeFunc ?_;intro fn d3;have a9:∀(W:World) (j:Nat->Nat) (H:List Xz) (a1:Act),Ww lo nt O W j (Xl H) a1 s.T->∃cv:List Value,a1.eval p=.func (.func gf) #[] cv.toArray/\XF (WE W (Live O j (Xl H))) cv G:=by
  intro W j H a1 h1;have hv:XP W O j (Xl H) (a1.eval p) (.p (.fn gf G)):=h1.eval p f _ hp hq;generalize a1.eval p=v at hv;cases hv with
  |p _ _ hp=>cases hp with
   |fn _ _ cv hl hc=>exact⟨cv,jL d4 cv,XF.VZ hl fun i v d hv hd=>hc i d v hd hv⟩
 obtain⟨cv,b4,_⟩:=a9 w μ s.H a a7;obtain⟨rec,o⟩:∃rec:LoopState->Option Code->Loop,rec=fun st pe=>{state:=st,pending:=pe,fn,tmps:=a.tmps,params:=y,assign:=ca,body:=cb,defers:=w.heap.size}:=⟨_,rfl⟩
 obtain⟨L,B⟩:∃L,(w.alloc (.deferred (some []))).alloc (.loop (rec .ready none))=L:=⟨_,rfl⟩;have c9:L.heap[w.heap.size+1]? =some (.loop (rec .ready none)):=by
  rw[<-B];have:=World.alloc_heap_new (w.alloc (.deferred (some []))) (.loop (rec .ready none));rwa[World.size_alloc]at this
 have c8:L.heap[w.heap.size]? =some (.deferred (some [])):=by
  rw[<-B];exact(Below.heap_alloc _ _ _ (by simp)).trans (World.alloc_heap_new w _)
 have e4:L.heap.size=w.heap.size+2:=by rw[<-B];simp
 have d0:∀k,k<w.heap.size->L.heap[k]? =w.heap[k]? :=fun k hk=>by
  rw[<-B];exact(Below.heap_alloc _ _ _ (by simp;omega)).trans (Below.heap_alloc _ _ _ hk)
 obtain⟨gm,gi⟩:=Tr (w':=L) hI (by omega) d0 (by rw[<-B];rfl) (by rw[<-B];rfl) (by rw[<-B];rfl);have V:∀b,Live O μ (Xl s.H) b->b<w.heap.size:=by
  rintro b (hb|⟨id,e5,h1,_,rfl⟩)
  ·exact hI.lt b hb
  ·exact hI.lt_size h1
 let M:Act:={a with defers:=tf w.heap.size::a.defers};have C:=a7.mono gm;have c5:Ww lo nt O L μ (Xl s.H) M s.T:=by
  refine⟨⟨C.jV.1,Zr.2 ⟨fun d hd e=> ?_,C.jV.2.1⟩,fun d hd=> ?_⟩,C.sz,C.slot⟩
  ·obtain⟨D,rfl,_,h3,_⟩:=a7.jV.2.2 d hd;have b7:D<w.heap.size:=(Z6.1 h3).1;simp only[tf,Target.collected.injEq]at e;omega
  ·rcases Zk.1 hd with rfl|hd
   ·exact⟨w.heap.size,rfl,a7.jV.1,c8,fun hl=>by have:=V _ hl;omega⟩
   ·exact C.jV.2.2 d hd
 have g:∀r:Loop,iK (.loop r):=fun r=>⟨(fun _ _ _ h=>by cases h),(fun _ _ h=>by cases h)⟩
 refine⟨w.heap.size+1,[tf w.heap.size],L,{target:=.fn (.func gf) cv.toArray,args:=#[.func (.yield (w.heap.size+1)) #[] #[]]},L,gf,
  #[.func (.yield (w.heap.size+1)) #[] #[]]++cv.toArray,L,?_,?_,fun _ _=>trivial,?_,fun h=>by simp[Fence.wide]at h,?_⟩
 ·rw[<-B,o];exact run_enterLoop_outer _ _ _ _ _
 ·simp only[resolve,b4];simp[go_sem]
 ·have e1:∀(q:Array Value) (W:World),(callFunc gf q).run P W=.ok (.enter gf q) W:=b5;simp[invoke,go_sem,e1]
 ·refine callsIn_wide.2 ((callsIn_wide (n:=0)).1 ?_);let R:=TO (fun s=>XD E K u a2 s) (fun s=>XD E K u body s);refine(b2 (w.heap.size+1) cv
   (fun i W=>∃H j,UX s.T R y.toList (a4.drop i) H=some (ex,s')/\X4 W O j (Xl H)/\Ww lo nt O W j (Xl H) M s.T/\Wo O w μ (Xl s.H) W j (Xl H)/\W.heap[w.heap.size+1]? =some (.loop (rec .ready none))/\¬Live O j (Xl H) (w.heap.size+1))
   (fun W=>∃c j,W.heap[w.heap.size+1]? =some (.loop (rec .done (some c)))/\X4 W O j (Xl s'.H)/\Ww lo nt O W j (Xl s'.H) M s'.T/\Wo O w μ (Xl s.H) W j (Xl s'.H)/\((c=.ret/\ex=.ret)\/∃id,c=.exit id/\ex=.exit id))
   ?_ ?_ L ⟨s.H,μ,hr,gi,c5,gm,c9,fun hl=>by have:=V _ hl;omega⟩).mono ?_
  ·rintro i W ⟨H,j,_,_,h3,_⟩;obtain⟨c6,S,b3⟩:=a9 W j H M h3;have :M.eval p=a.eval p:=by cases p<;>rfl
   rw[this,b4]at S;simp only[Value.func.injEq,true_and]at S;have :cv=c6:=by simpa using S
   exact⟨_,this▸b3⟩
  ·rintro i W xs vs ⟨H,j,t,N,A,X,z,c2⟩ e0 Z;have b7:w.heap.size+1<W.heap.size:=(Z6.1 z).1;have b1:a4.drop i=xs::a4.drop (i+1):=by
    obtain⟨h1,h2⟩:=Zd.1 e0;rw[Z7 h1,h2]
   rw[b1]at t;simp only[UX]at t;cases I:Qx y.toList xs s.T with
   |none=>simp[I]at t
   |some T1=>
   simp only[I]at t;cases hb:R ⟨T1,H⟩with
   |none=>simp[hb]at t
   |some q=>
   obtain⟨e1,s1⟩:=q;simp only[hb]at t;have a5:TO (fun s=>XD E K u a2 s) (fun s=>XD E K u body s) ⟨T1,H⟩=some (e1,s1):=hb;unfold TO at a5;split at a5
   ·rename_i s2 c4;have d7:vs.length=y.size:=by
     rw[Z.length,<-NZ _ _ _ _ I];simp
    obtain⟨hz,Y⟩:=cG (w:=W) (O:=O) (μ:=j) (h:=Xl H) (nt:=nt) y.toList xs s.T T1 a.tmps vs I d8 (Z.imp fun v x d9=>d9 O j (Xl H)) A.sz A.slot;rw[<-uq]at hz Y;have hy:=run_yield (P:=P) (args:=vs.toArray) z (by rw[o];simpa using d7);rw[o]at hy;refine⟨fn,_,ca,cb,hy,roundIn_of_wpIn d3 ?_⟩;refine e3 (w.heap.size+1) 0 ca d1 ⟨T1,H⟩ .normal s2 c4 _ W j N ⟨⟨Zs _,.nil,fun d hd=>by simp at hd⟩,hz,Y⟩ _ fun a1 w1 J g1 g2 g3=> ?_
    have U:w1.heap[w.heap.size+1]? =some (.loop (rec .ready none)):=(g3.keeps.V2 _ b7 c2).trans z;have a8:¬Live O J (Xl s2.H) (w.heap.size+1):=fun hh=>(g3.keeps.live _ hh).elim c2 (by omega)
    have b8:w.heap.size+1<w1.heap.size:=(Z6.1 U).1;refine⟨_,run_beginRound U (by rw[o]),?_⟩;generalize a0:w1.putObj (w.heap.size+1) (.loop {rec .ready none with state:=.busy})=w2;have b6:w2.heap[w.heap.size+1]? =some (.loop {rec .ready none with state:=.busy}):=by rw[<-a0];exact World.putObj_heap_same b8
    have c7:X4 w2 O J (Xl s2.H):=by rw[<-a0];exact g1.same (UJ U (g _) (g _))
    have d5:Ww 0 nt O w2 J (Xl s2.H) a1 s2.T:=by rw[<-a0];exact g2.same U (g _) (fun _ h=>by cases h) (g _)
    have d6:Ww lo nt O w2 J (Xl s2.H) M s.T:=by rw[<-a0];exact(A.mono g3).same U (g _) (fun _ h=>by cases h) (g _)
    have c1:Wo O w μ (Xl s.H) w2 J (Xl s2.H):=by rw[<-a0];exact TB hI (X.trans g3) (by omega) _
    refine e2 (w.heap.size+1) 0 cb d2 s2 e1 s1 a5 a1 w2 J c7 d5 _ fun a3 w3 F k1 k2 k3=> ?_
    have b9:w.heap.size+1<w2.heap.size:=(Z6.1 b6).1;have a6:w3.heap[w.heap.size+1]? =some (.loop {rec .ready none with state:=.busy}):=(k3.keeps.V2 _ b9 a8).trans b6;have c3:¬Live O F (Xl s1.H) (w.heap.size+1):=fun hh=>(k3.keeps.live _ hh).elim a8 (by omega)
    have c0:w.heap.size+1<w3.heap.size:=(Z6.1 a6).1;have b0:∀(m:Option Code),(Instr.endRound (w.heap.size+1) m).run P w3=.ok (.bool m.isNone) (w3.putObj (w.heap.size+1) (.loop (rec (if m.isNone then .ready else .done) m)))/\
      (w3.putObj (w.heap.size+1) (.loop (rec (if m.isNone then .ready else .done) m))).heap[w.heap.size+1]? =some (.loop (rec (if m.isNone then .ready else .done) m))/\
      X4 (w3.putObj (w.heap.size+1) (.loop (rec (if m.isNone then .ready else .done) m))) O F (Xl s1.H)/\
      Ww lo nt O (w3.putObj (w.heap.size+1) (.loop (rec (if m.isNone then .ready else .done) m))) F (Xl s1.H) M s.T/\
      Wo O w μ (Xl s.H) (w3.putObj (w.heap.size+1) (.loop (rec (if m.isNone then .ready else .done) m))) F (Xl s1.H):=by
     intro m;refine⟨?_,World.putObj_heap_same c0,k1.same (UJ a6 (g _) (g _)),(d6.mono k3).same a6 (g _) (fun _ h=>by cases h) (g _),TB hI (c1.trans k3) (by omega) _⟩;have:=run_endRound (P:=P) m a6;rw[o]at this⊢;exact this
    cases e1 with
    |normal=>
     obtain⟨f1,f2,f3,f4,f5⟩:=b0 none;exact⟨_,_,f1,.inl ⟨rfl,s1.H,F,t,f3,f4,f5,f2,c3⟩⟩
    |ret=>
     simp only[Za,Zn]at t;obtain⟨rfl,rfl⟩:=t;obtain⟨f1,f2,f3,f4,f5⟩:=b0 (some .ret);exact⟨_,_,f1,.inr ⟨rfl,.ret,F,f2,f3,f4,f5,.inl ⟨rfl,rfl⟩⟩⟩
    |exit id=>
     simp only[Za,Zn]at t;obtain⟨rfl,rfl⟩:=t;obtain⟨f1,f2,f3,f4,f5⟩:=b0 (some (.exit id));exact⟨_,_,f1,.inr ⟨rfl,.exit id,F,f2,f3,f4,f5,.inr ⟨id,rfl,rfl⟩⟩⟩
   ·simp at a5
  ·rintro e W2 ⟨⟨v,rfl⟩,(⟨H,j,t,N,A,X,z,_⟩|⟨c,j,z,N,A,X,hc⟩)⟩
   ·rw[List.drop_length]at t;simp only[UX,Za,Zn]at t;obtain⟨rfl,rfl⟩:=t;exact⟨none,_,by have:=run_endLoop (P:=P) z (by rw[o];simp);rw[o]at this;exact this,
     hk M _ j (N.same (UJ z (g _) (g _))) (A.same z (g _) (fun _ h=>by cases h) (g _)) (TB hI X (by omega) _)⟩
   ·refine⟨some c,_,by have:=run_endLoop (P:=P) z (by rw[o];simp);rw[o]at this;exact this,?_⟩;have:=hk M _ j (N.same (UJ z (g _) (g {rec .done (some c)with state:=.exhausted}))) (A.same z (g _) (fun _ h=>by cases h) (g _)) (TB hI X (by omega) _);rw[o]at this;rcases hc with⟨rfl,rfl⟩|⟨id,rfl,rfl⟩
    ·exact wpIn_ret this
    ·exact wpIn_exit this
theorem QO (E:Xb)(hE:Wu P E)(hD:OC P E)(K o nt:Nat):∀xc:XE,Eu P E K o nt xc:=by
 intro xc;induction xc with
 |skip=>
  intro O F n lo A m c B s M I b a w r z g Q y;simp only[XD,Za,Zn]at b;obtain⟨rfl,rfl⟩:=b;have:=y a w r z g (Wo.refl _ _ _ _);rcases Uq B with rfl|⟨l,rfl⟩
  ·exact wpIn_skip this
  ·exact wpIn_label this
 |region d os=>
  intro O F n lo A m c B s M I b a w r z g Q y;obtain⟨id,a0,V,rfl,hm,hf,b3⟩:=Uq B;cases d with
  |false=>
   have e0:=b3 rfl;subst e0;simp only[XD,gv]at b;cases v:Uf E o V s with
   |none=>simp[v]at b
   |some J=>
   simp only[v,Za,Zn]at b;obtain⟨rfl,rfl⟩:=b;refine wpIn_region_list ?_;have:=gq (O:=O) (Q:=Q) E hE A n o a0.toList a0.toList V hm s J a w r v z g y;simpa using this
  |true=>
   obtain⟨a6,rfl⟩:=hf rfl;simp only[XD]at b;cases v:Uz E o (WD [] V) s with
   |none=>simp[v]at b
   |some J=>
   simp only[v,Za,Zn]at b;obtain⟨rfl,rfl⟩:=b;exact hD F n A O lo o nt id a0 V (WD [] V) [] hm a6 (ZN _).symm rfl s J J v rfl a w r z g Q y
 |Re a3 a9=>
  intro O F n lo A m c B s M I b a w r z g Q y;simp only[XE.erase]at B;cases a8:TJ a3.length a9 with
  |false=>rw[a8,cond_false]at B;exact(Uq B).elim
  |true=>
  rw[a8,cond_true]at B;obtain⟨id,a0,V,rfl,hm,hf,_⟩:=Uq B;obtain⟨a6,b4⟩:=hf rfl;simp only[XD,Pu]at b;cases v:Uz E o a3 s with
  |none=>simp[v]at b
  |some J=>
  simp only[v]at b;cases a5:Uf E o a9 J with
  |none=>simp[a5]at b
  |some s2=>
  simp only[a5,Za,Zn]at b;obtain⟨rfl,rfl⟩:=b;exact hD F n A O lo o nt id a0 V a3 a9 hm a6 b4.symm a8 s J s2 v a5 a w r z g Q y
 |seq X xb x Z=>
  intro O F n lo A m c B s M I b a w r z g Q y;obtain⟨L,cb,rfl,u,Y⟩:=Uq B;have C:F=Fence.wide\/X.flat=true:=m.imp (fun h=>h) fun h=>by simp only[XE.flat,Zp]at h;exact h.1
  have a7:F=Fence.wide\/xb.flat=true:=m.imp (fun h=>h) fun h=>by simp only[XE.flat,Zp]at h;exact h.2
  simp only[XD]at b;cases v:XD E K o X s with
  |none=>simp[v]at b
  |some q=>
  obtain⟨e1,J⟩:=q;refine wpIn_seq ?_;cases e1 with
  |normal=>
   simp only[v]at b;exact x O F n lo A C L u s .normal J v a w r z g _ fun G D i N R S=>Z O F n lo A a7 cb Y J M I b G D i N R Q fun a2 w2 b1 g1 g2 g3=>y a2 w2 b1 g1 g2 (S.trans g3)
  |exit id=>
   simp only[v,Za,Zn]at b;obtain⟨rfl,rfl⟩:=b;exact x O F n lo A C L u s (.exit id) J v a w r z g _ fun G D i N R S=>y G D i N R S
  |ret=>
   simp only[v,Za,Zn]at b;obtain⟨rfl,rfl⟩:=b;exact x O F n lo A C L u s .ret J v a w r z g _ fun G D i N R S=>y G D i N R S
 |cond q X xb x Z=>
  intro O F n lo A m c B s M I b a w r z g Q y;obtain⟨p,L,cb,rfl,hp,u,Y⟩:=Uq B;have C:F=Fence.wide\/X.flat=true:=m.imp (fun h=>h) fun h=>by simp only[XE.flat,Zp]at h;exact h.1
  have a7:F=Fence.wide\/xb.flat=true:=m.imp (fun h=>h) fun h=>by simp only[XE.flat,Zp]at h;exact h.2
  simp only[XD]at b;split at b
  ·rename_i hq;exact wpIn_cond_true (g.eval p q _ hp hq).SU (x O F n lo A C L u s M I b a w r z g Q y)
  ·rename_i hq;exact wpIn_cond_false (g.eval p q _ hp hq).SU (Z O F n lo A a7 cb Y s M I b a w r z g Q y)
  ·simp at b
 |block id X x=>
  intro O F n lo A m c B s M I b a w r z g Q y;obtain⟨L,rfl,u⟩:=Uq B;have C:F=Fence.wide\/X.flat=true:=m.imp (fun h=>h) fun h=>by simpa only[XE.flat]using h
  simp only[XD]at b;cases v:XD E K o X s with
  |none=>simp[v]at b
  |some q=>
  obtain⟨e1,J⟩:=q;refine wpIn_block ?_;cases e1 with
  |normal=>
   simp only[v,Za,Zn]at b;obtain⟨rfl,rfl⟩:=b;exact x O F n lo A C L u s .normal J v a w r z g _ fun G D i N R S=>y G D i N R S
  |ret=>
   simp only[v,Za,Zn]at b;obtain⟨rfl,rfl⟩:=b;exact x O F n lo A C L u s .ret J v a w r z g _ fun G D i N R S=>y G D i N R S
  |exit j=>
   simp only[v]at b;refine x O F n lo A C L u s (.exit j) J v a w r z g _ fun G D i N R S=> ?_
   show(if j=id then Q .normal G D else Q (.exit j) G D);by_cases e:j=id
   ·subst e;simp only[beq_self_eq_true,cond_true,Za,Zn]at b;obtain⟨rfl,rfl⟩:=b;rw[if_pos rfl];exact y G D i N R S
   ·have :(j==id)=false:=by simpa using e
    simp only[this,cond_false,Za,Zn]at b;obtain⟨rfl,rfl⟩:=b;rw[if_neg e];exact y G D i N R S
 |loop X x=>
  intro O F n lo A m c B s M I b a w r z g Q y;obtain⟨L,rfl,u⟩:=Uq B;have C:F=Fence.wide\/X.flat=true:=m.imp (fun h=>h) fun h=>by simpa only[XE.flat]using h
  simp only[XD]at b;refine wpIn_loop_rounds K ?_;have b2:∀(k:Nat) (s:St) (a:Act) (w:World) (r:Nat->Nat),Ob (fun s=>XD E K o X s) k s=some (M,I)->X4 w O r (Xl s.H)->Ww lo nt O w r (Xl s.H) a s.T->
    (∀G D i,X4 D O i (Xl I.H)->Ww lo nt O D i (Xl I.H) G I.T->Wo O w r (Xl s.H) D i (Xl I.H)->Q (Ca M) G D)->Code.roundsIn F n P L Q k a w:=by
   intro k;induction k with
   |zero=>intro s a w r b;simp[Ob]at b
   |succ k ih=>
    intro s a w r b z g y;simp only[Ob]at b;cases v:XD E K o X s with
    |none=>simp[v]at b
    |some q=>
    obtain⟨e1,J⟩:=q;show L.wpIn F n P (Exit.then (Code.roundsIn F n P L Q k) Q) a w;cases e1 with
    |normal=>
     simp only[v]at b;exact x O F n lo A C L u s .normal J v a w r z g _ fun G D i N R S=>ih J G D i b N R fun a2 w2 b1 g1 g2 g3=>y a2 w2 b1 g1 g2 (S.trans g3)
    |exit id=>
     simp only[v,Za,Zn]at b;obtain⟨rfl,rfl⟩:=b;exact x O F n lo A C L u s (.exit id) J v a w r z g _ fun G D i N R S=>y G D i N R S
    |ret=>
     simp only[v,Za,Zn]at b;obtain⟨rfl,rfl⟩:=b;exact x O F n lo A C L u s .ret J v a w r z g _ fun G D i N R S=>y G D i N R S
  exact b2 K s a w r b z g y
 |V2 ks X x=>
  intro O F n lo A m c B s M I b a w r z g Q y;simp only[XD,RH]at b;exact x O F n lo A m c B ⟨VK s.T ks,s.H⟩ M I b a w r z ⟨g.jV,g.sz,fun t d hd=>g.slot t d (RL _ _ _ _ hd)⟩ Q y
 |scope X x=>
  intro O F n lo A m c B s M I b a w r z g Q y;obtain⟨L,rfl,u⟩:=Uq B;simp only[XD]at b;obtain rfl:F=Fence.wide:=m.resolve_right (by simp[XE.flat]);refine wpIn_wide.2 (wp_scope_straight ((wpIn_wide (n:=n)).1 (x O Fence.wide n lo A (.inl rfl) L u s M I b a w r z g _ fun G D i N R S=> ?_)));have:=y G D i N R S;cases M<;>exact this
 |exit id=>
  intro O F n lo A m c B s M I b a w r z g Q y;have a4:c=.exit id:=Uq B;subst a4;simp only[XD,Za,Zn]at b;obtain⟨rfl,rfl⟩:=b;exact wpIn_exit (y a w r z g (Wo.refl _ _ _ _))
 |ret=>
  intro O F n lo A m c B s M I b a w r z g Q y;have a4:c=.ret:=Uq B;subst a4;simp only[XD,Za,Zn]at b;obtain⟨rfl,rfl⟩:=b;exact wpIn_ret (y a w r z g (Wo.refl _ _ _ _))
 |PJ f b7 a3 body b6 Z=>
  intro O F n lo A m c B s M I b a w r z g Q y;obtain rfl:F=Fence.wide:=m.resolve_right (by simp[XE.flat]);obtain⟨p,vs,L,cb,rfl,rfl,b5,hp,u,Y⟩:=Uq B;simp only[XD]at b;split at b
  ·rename_i gf W hq;cases a1:E.iter gf W with
   |none=>simp[a1]at b
   |some b0=>
   simp only[a1]at b;obtain⟨U,b⟩:=XX b;rw[Zp,Zp]at U;exact Bg (fun l n=>b6 O (Fence.wide.inRound l) n 0 (.inr ⟨l,rfl⟩) (.inr U.1.1)) (fun l n=>Z O (Fence.wide.inRound l) n 0 (.inr ⟨l,rfl⟩) (.inr U.1.2)) p vs L cb b5 f hp u Y gf W b0 U.2 (hE.iter gf W b0 a1).1 (hE.iter gf W b0 a1).2 s M I hq b n lo a w r z g Q y
  ·simp at b
end
end Go.Ev
