/- Code: the interpreter's run gives the weakest precondition. -/
import Derived.Test.YtidginchkjhobaaGreatEvSeq
import Derived.LoopN
import Derived.Scope
namespace Go.Ev
open Go.RowKit
section
variable {lo:Nat}{P:Program}{O:BS}
def FB:Ex->Exit
 | .normal=>.normal
 | .exit id=>.exit id
 | .ret=>.ret
def Nj (P:Program)(E:Xa):Prop:=
 ∀(F:Fence) (n:Nat),Un F->∀(O:BS) (lo base nt id:Nat) (ops:Array Oper) (os pre suf:F'),Xv (UL P nt ops.toList) ops.toList=some os->jz (WN [] os)=true->WN [] os=pre++suf->Si pre.length suf=true->
  ∀(s s1 s':St),TB E base pre s=some s1->UY E base suf s1=some s'->∀(a:Act) (w:World) (μ:Nat->Nat),
  X3 w O μ (Xj s.H)->Wz lo nt O w μ (Xj s.H) a s.T->∀(Q:Exit->Act->World->Prop),
  (∀a' w' μ',X3 w' O μ' (Xj s'.H)->Wz lo nt O w' μ' (Xj s'.H) a' s'.T->Wy O w μ (Xj s.H) w' μ' (Xj s'.H)->Q .normal a' w')->(Code.region id ops true).wpIn F n P Q a w
theorem Qn {b:Type}(T:List (Nat×DV)):∀(a:P') (k:List (Nat×DV)->b),rZ T a k=k (V3 T a)
 |[],_=>rfl
 |n::ns,k=>by
  simp only[rZ,V3];cases Xh T n with
  |none=>exact Qn T ns k
  |some v=>exact Qn T ns _
theorem Qq (T:List (Nat×DV)):∀(b:P') (t:Nat) (d:DV),Xh (V3 T b) t=some d->Xh T t=some d
 |[],t,d,h=>by simp[V3,Xh]at h
 |n::ns,t,d,h=>by
  simp only[V3]at h;cases a:Xh T n with
  |none=>simp only[a]at h;exact Qq T ns t d h
  |some v=>
   simp only[a,UR]at h;by_cases e:n=t
   ·subst e;rw[if_pos rfl]at h;rw[a];exact h
   ·rw[if_neg e]at h;exact Qq T ns t d h
theorem jI (E:Xa)(a:Nat):∀(b:F') (s:St),UY E a (b.map Xy.bare) s=UY E a b s
 |[],_=>rfl
 |o::b,s=>by
  simp only[Zt,UY,jI E a b];rfl
def vS (P:Program)(E:Xa)(K base nt:Nat)(O:BS)(F:Fence)(n lo:Nat)(xc:XH):Prop:=
 ∀(c:Code),XO P nt c=some xc.erase->∀(s:St) (ex:Ex) (s':St),XI E K base xc s=some (ex,s')->∀(a:Act) (w:World) (μ:Nat->Nat),X3 w O μ (Xj s.H)->Wz lo nt O w μ (Xj s.H) a s.T->
  ∀(Q:Exit->Act->World->Prop),(∀a' w' μ',X3 w' O μ' (Xj s'.H)->Wz lo nt O w' μ' (Xj s'.H) a' s'.T->Wy O w μ (Xj s.H) w' μ' (Xj s'.H)->Q (FB ex) a' w')->c.wpIn F n P Q a w
def IC (P:Program)(E:Xa)(K base nt:Nat)(xc:XH):Prop:=
 ∀(O:BS) (F:Fence) (n lo:Nat),Un F->(F=Fence.wide\/xc.flat=true)->vS P E K base nt O F n lo xc
theorem UM {i:Nat}{c:Code}{x:XH}(e:XO P i c=some x):
  match x with
  | .skip=>c=.skip\/∃l,c=.label l
  | .region d r=>∃id g k,c=.region id g d/\Xv (UL P i g.toList) g.toList=some k/\(d=true->jz (WN [] k)=true/\r=WN [] k)/\(d=false->r=k.map Xy.bare)
  | .seq h o=>∃a b,c=.seq a b/\XO P i a=some h/\XO P i b=some o
  | .cond q h o=>∃p a b,c=.cond p a b/\Xz p=some q/\XO P i a=some h/\XO P i b=some o
  | .block id h=>∃a,c=.block id a/\XO P i a=some h
  | .loop h=>∃a,c=.loop a/\XO P i a=some h
  | .scope h=>∃a,c=.scope a/\XO P i a=some h
  | .exit id=>c=.exit id
  | .ret=>c=.ret
  | .Og q u h o=>∃p n a b,c=.rangeFunc p n a b/\u=n.toList/\(∀v∈u,v<i)/\Xz p=some q/\XO P i a=some h/\XO P i b=some o
  | .RP _ _=>False
  | .VM _ _=>False:=by
 cases c with
 |skip=>simp only[XO,Za]at e;subst e;exact .inl rfl
 |label l=>simp only[XO,Za]at e;subst e;exact .inr ⟨l,rfl⟩
 |region id g d=>
  simp only[XO]at e;cases s:Xv (UL P i g.toList) g.toList with
  |none=>simp[s]at e
  |some r=>
  simp only[s]at e;cases d with
  |false=>simp only[Zy,if_false,Za]at e;subst e;exact⟨id,g,r,rfl,s,by simp,fun _=>rfl⟩
  |true=>
   simp only[if_true]at e;split at e<;>simp only[Za,reduceCtorEq]at e;rename_i A;subst e;exact⟨id,g,r,rfl,s,fun _=>⟨A,rfl⟩,by simp⟩
 |seq a b=>
  simp only[XO]at e;split at e<;>simp only[Za,reduceCtorEq]at e;rename_i h o j t;subst e;exact⟨a,b,rfl,j,t⟩
 |cond p a b=>
  simp only[XO]at e;split at e<;>simp only[Za,reduceCtorEq]at e;rename_i q h o B j t;subst e;exact⟨p,a,b,rfl,B,j,t⟩
 |block id a=>
  simp only[XO]at e;split at e<;>simp only[Za,reduceCtorEq]at e;rename_i h j;subst e;exact⟨a,rfl,j⟩
 |loop a=>
  simp only[XO]at e;split at e<;>simp only[Za,reduceCtorEq]at e;rename_i h j;subst e;exact⟨a,rfl,j⟩
 |rangeFunc f v a b=>
  simp only[XO]at e;split at e
  ·rename_i q h o w y z;split at e<;>simp only[Za,reduceCtorEq]at e;rename_i C;subst e;exact⟨f,v,a,b,rfl,rfl,fun x D=>Qy (ZI.1 C x D),w,y,z⟩
  ·simp at e
 |exit id=>simp only[XO,Za]at e;subst e;rfl
 |scope a=>
  simp only[XO]at e;split at e<;>simp only[Za,reduceCtorEq]at e;rename_i h j;subst e;exact⟨a,rfl,j⟩
 |goto l=>simp[XO]at e
 |ret=>simp only[XO,Za]at e;subst e;rfl
 |refuse m=>simp[XO]at e
theorem ba:∀(a:P') (b:List PV) (T c:List (Nat×DV)),Q7 a b T=some c->a.length=b.length
 |[],[],_,_,_=>rfl
 |[],_::_,_,_,h=>by simp[Q7]at h
 |_::_,[],_,_,h=>by simp[Q7]at h
 |_::vs,_::b,_,c,h=>by simp only[Q7]at h;simp[ba vs b _ c h]
theorem eD {w:World}{μ:Nat->Nat}{h:HF}{nt:Nat}:∀(a:P') (g:List PV) (T b:List (Nat×DV)) (tmps:Array Value) (f:List Value),Q7 a g T=some b->(∀v∈a,v<nt)->XB (fun v x=>XA w O μ h v (inj x)) f g->tmps.size=nt->
  (∀t d,Xh T t=some d->XA w O μ h (tmps.getD t undef) d)->((a.zip f).foldl (fun t (q:Nat×Value)=>t.setIfInBounds q.1 q.2) tmps).size=nt/\
   ∀t d,Xh b t=some d->XA w O μ h (((a.zip f).foldl (fun t (q:Nat×Value)=>t.setIfInBounds q.1 q.2) tmps).getD t undef) d
 |[],[],T,b,tmps,f,hs,_,_,hsz,hT=>by
  simp only[Q7,Za]at hs;subst hs;simp only[List.zip_nil_left,List.foldl_nil];exact⟨hsz,hT⟩
 |[],_::_,_,_,_,_,hs,_,_,_,_=>by simp[Q7]at hs
 |_::_,[],_,_,_,_,hs,_,_,_,_=>by simp[Q7]at hs
 |p::a,x::g,T,b,tmps,f,hs,hlt,hall,hsz,hT=>by
  cases hall with
  |@cons v _ i _ j k=>
  simp only[Q7]at hs;simp only[List.zip_cons_cons,List.foldl_cons];refine eD a g _ b _ i hs (fun q m=>hlt q (by simp[m])) k (by simpa using hsz) fun t d c=> ?_
  simp only[UR]at c;have l:p<tmps.size:=by rw[hsz];exact hlt p (by simp)
  by_cases e:p=t
  ·subst e;rw[if_pos rfl]at c;cases c;rw[Yc,Array.getElem?_setIfInBounds_self_of_lt l];exact j
  ·rw[if_neg e]at c;rw[Yc,Array.getElem?_setIfInBounds_ne e,<-Yc];exact hT t d c
theorem yb (a:Array Nat)(b:List Value)(tmps:Array Value):(a.zip b.toArray).foldl (fun t (q:Nat×Value)=>t.setIfInBounds q.1 q.2) tmps=(a.toList.zip b).foldl (fun t (q:Nat×Value)=>t.setIfInBounds q.1 q.2) tmps:=by
 rw[<-Array.foldl_toList,Array.toList_zip]
theorem EE {E:Xa}{K y nt:Nat}{a4 body:XH}(e4:∀(l n:Nat),vS P E K y nt O (Fence.wide.inRound l) n 0 a4)(e3:∀(l n:Nat),vS P E K y nt O (Fence.wide.inRound l) n 0 body)
  (p:Operand) (z:Array Tmp) (ca cb:Code) (d9:∀v∈z.toList,v<nt) (f:Vs) (hp:Xz p=some f) (d2:XO P nt ca=some a4.erase) (d3:XO P nt cb=some body.erase)
  (gf:Nat) (I:N') (a5:List (List PV)) (d5:Nat.blt gf aM=true) (b3:vP P gf I a5) (b6:pT P gf) (s:St) (ex:Ex) (s':St) (hq:f.eval s.T=some (.one (.p (.fn gf I))))
  (hr:Tp s.T (Sn (fun s=>XI E K y a4 s) (fun s=>XI E K y body s)) z.toList a5 s.H=some (ex,s')) (n lo:Nat) (a:Act) (w:World) (μ:Nat->Nat) (hI:X3 w O μ (Xj s.H)) (a8:Wz lo nt O w μ (Xj s.H) a s.T)
  (Q:Exit->Act->World->Prop) (hk:∀N w' j,X3 w' O j (Xj s'.H)->Wz lo nt O w' j (Xj s'.H) N s'.T->Wy O w μ (Xj s.H) w' j (Xj s'.H)->Q (FB ex) N w'):(Code.rangeFunc p z ca cb).wpIn Fence.wide n P Q a w:=by
 refine wpIn_rangeFunc ?_;intro fn d4;have b0:∀(W:World) (j:Nat->Nat) (H:V') (a1:Act),Wz lo nt O W j (Xj H) a1 s.T->∃cv:List Value,a1.eval p=.func (.func gf) #[] cv.toArray/\XB (Ws W (Live O j (Xj H))) cv I:=by
  intro W j H a1 h1;have hv:XE W O j (Xj H) (a1.eval p) (.p (.fn gf I)):=h1.eval p f _ hp hq;generalize a1.eval p=v at hv;cases hv with
  |p _ _ hp=>cases hp with
   |fn _ _ cv hl hc=>exact⟨cv,mL d5 cv,XB.Uj hl fun i v d hv hd=>hc i d v hd hv⟩
 obtain⟨cv,b5,_⟩:=b0 w μ s.H a a8;obtain⟨o,t⟩:∃o:LoopState->Option Code->Loop,o=fun st pe=>{state:=st,pending:=pe,fn,tmps:=a.tmps,params:=z,assign:=ca,body:=cb,defers:=w.heap.size}:=⟨_,rfl⟩
 obtain⟨M,C⟩:∃M,(w.alloc (.deferred (some []))).alloc (.loop (o .ready none))=M:=⟨_,rfl⟩;have d0:M.heap[w.heap.size+1]? =some (.loop (o .ready none)):=by
  rw[<-C];have:=World.alloc_heap_new (w.alloc (.deferred (some []))) (.loop (o .ready none));rwa[World.size_alloc]at this
 have c9:M.heap[w.heap.size]? =some (.deferred (some [])):=by
  rw[<-C];exact(Below.heap_alloc _ _ _ (by simp)).trans (World.alloc_heap_new w _)
 have e5:M.heap.size=w.heap.size+2:=by rw[<-C];simp
 have d1:∀k,k<w.heap.size->M.heap[k]? =w.heap[k]? :=fun k hk=>by
  rw[<-C];exact(Below.heap_alloc _ _ _ (by simp;omega)).trans (Below.heap_alloc _ _ _ hk)
 obtain⟨gm,gi⟩:=Te (w':=M) hI (by omega) d1 (by rw[<-C];rfl) (by rw[<-C];rfl) (by rw[<-C];rfl);have X:∀b,Live O μ (Xj s.H) b->b<w.heap.size:=by
  rintro b (hb|⟨id,e6,h1,_,rfl⟩)
  ·exact hI.lt b hb
  ·exact hI.lt_size h1
 let N:Act:={a with defers:=wS w.heap.size::a.defers};have F:=a8.mono gm;have c6:Wz lo nt O M μ (Xj s.H) N s.T:=by
  refine⟨⟨F.nb.1,Zu.2 ⟨fun d hd e=> ?_,F.nb.2.1⟩,fun d hd=> ?_⟩,F.sz,F.slot⟩
  ·obtain⟨D,rfl,_,h3,_⟩:=a8.nb.2.2 d hd;have b8:D<w.heap.size:=(Ya.1 h3).1;simp only[wS,Target.collected.injEq]at e;omega
  ·rcases Zj.1 hd with rfl|hd
   ·exact⟨w.heap.size,rfl,a8.nb.1,c9,fun hl=>by have:=X _ hl;omega⟩
   ·exact F.nb.2.2 d hd
 have g:∀r:Loop,kU (.loop r):=fun r=>⟨(fun _ _ _ h=>by cases h),(fun _ _ h=>by cases h)⟩
 refine⟨w.heap.size+1,[wS w.heap.size],M,{target:=.fn (.func gf) cv.toArray,args:=#[.func (.yield (w.heap.size+1)) #[] #[]]},M,gf,
  #[.func (.yield (w.heap.size+1)) #[] #[]]++cv.toArray,M,?_,?_,fun _ _=>trivial,?_,fun h=>by simp[Fence.wide]at h,?_⟩
 ·rw[<-C,t];exact run_enterLoop_outer _ _ _ _ _
 ·simp only[resolve,b5];simp[go_sem]
 ·have e1:∀(q:Array Value) (W:World),(callFunc gf q).run P W=.ok (.enter gf q) W:=b6;simp[invoke,go_sem,e1]
 ·refine callsIn_wide.2 ((callsIn_wide (n:=0)).1 ?_);let R:=Sn (fun s=>XI E K y a4 s) (fun s=>XI E K y body s);refine(b3 (w.heap.size+1) cv
   (fun i W=>∃H j,Tp s.T R z.toList (a5.drop i) H=some (ex,s')/\X3 W O j (Xj H)/\Wz lo nt O W j (Xj H) N s.T/\Wy O w μ (Xj s.H) W j (Xj H)/\W.heap[w.heap.size+1]? =some (.loop (o .ready none))/\¬Live O j (Xj H) (w.heap.size+1))
   (fun W=>∃c j,W.heap[w.heap.size+1]? =some (.loop (o .done (some c)))/\X3 W O j (Xj s'.H)/\Wz lo nt O W j (Xj s'.H) N s'.T/\Wy O w μ (Xj s.H) W j (Xj s'.H)/\((c=.ret/\ex=.ret)\/∃id,c=.exit id/\ex=.exit id))
   ?_ ?_ M ⟨s.H,μ,hr,gi,c6,gm,d0,fun hl=>by have:=X _ hl;omega⟩).mono ?_
  ·rintro i W ⟨H,j,_,_,h3,_⟩;obtain⟨c7,U,b4⟩:=b0 W j H N h3;have :N.eval p=a.eval p:=by cases p<;>rfl
   rw[this,b5]at U;simp only[Value.func.injEq,true_and]at U;have :cv=c7:=by simpa using U
   exact⟨_,this▸b4⟩
  ·rintro i W xs vs ⟨H,j,u,S,B,Y,A,c3⟩ e2 a0;have b8:w.heap.size+1<W.heap.size:=(Ya.1 A).1;have b2:a5.drop i=xs::a5.drop (i+1):=by
    obtain⟨h1,h2⟩:=Zf.1 e2;rw[Z5 h1,h2]
   rw[b2]at u;simp only[Tp]at u;cases J:Q7 z.toList xs s.T with
   |none=>simp[J]at u
   |some T1=>
   simp only[J]at u;cases hb:R ⟨T1,H⟩with
   |none=>simp[hb]at u
   |some q=>
   obtain⟨e1,s1⟩:=q;simp only[hb]at u;have a6:Sn (fun s=>XI E K y a4 s) (fun s=>XI E K y body s) ⟨T1,H⟩=some (e1,s1):=hb;unfold Sn at a6;split at a6
   ·rename_i s2 c5;have d8:vs.length=z.size:=by
     rw[a0.length,<-ba _ _ _ _ J];simp
    obtain⟨hz,Z⟩:=eD (w:=W) (O:=O) (μ:=j) (h:=Xj H) (nt:=nt) z.toList xs s.T T1 a.tmps vs J d9 (a0.imp fun v x e0=>e0 O j (Xj H)) B.sz B.slot;rw[<-yb]at hz Z;have hy:=run_yield (P:=P) (args:=vs.toArray) A (by rw[t];simpa using d8);rw[t]at hy;refine⟨fn,_,ca,cb,hy,roundIn_of_wpIn d4 ?_⟩;refine e4 (w.heap.size+1) 0 ca d2 ⟨T1,H⟩ .normal s2 c5 _ W j S ⟨⟨Zw _,.nil,fun d hd=>by simp at hd⟩,hz,Z⟩ _ fun a1 w1 L g1 g2 g3=> ?_
    have V:w1.heap[w.heap.size+1]? =some (.loop (o .ready none)):=(g3.keeps.VM _ b8 c3).trans A;have a9:¬Live O L (Xj s2.H) (w.heap.size+1):=fun hh=>(g3.keeps.live _ hh).elim c3 (by omega)
    have b9:w.heap.size+1<w1.heap.size:=(Ya.1 V).1;refine⟨_,run_beginRound V (by rw[t]),?_⟩;generalize a2:w1.putObj (w.heap.size+1) (.loop {o .ready none with state:=.busy})=w2;have b7:w2.heap[w.heap.size+1]? =some (.loop {o .ready none with state:=.busy}):=by rw[<-a2];exact World.putObj_heap_same b9
    have c8:X3 w2 O L (Xj s2.H):=by rw[<-a2];exact g1.same (U6 V (g _) (g _))
    have d6:Wz 0 nt O w2 L (Xj s2.H) a1 s2.T:=by rw[<-a2];exact g2.same V (g _) (fun _ h=>by cases h) (g _)
    have d7:Wz lo nt O w2 L (Xj s2.H) N s.T:=by rw[<-a2];exact(B.mono g3).same V (g _) (fun _ h=>by cases h) (g _)
    have c2:Wy O w μ (Xj s.H) w2 L (Xj s2.H):=by rw[<-a2];exact T9 hI (Y.trans g3) (by omega) _
    refine e3 (w.heap.size+1) 0 cb d3 s2 e1 s1 a6 a1 w2 L c8 d6 _ fun a3 w3 G k1 k2 k3=> ?_
    have c0:w.heap.size+1<w2.heap.size:=(Ya.1 b7).1;have a7:w3.heap[w.heap.size+1]? =some (.loop {o .ready none with state:=.busy}):=(k3.keeps.VM _ c0 a9).trans b7;have c4:¬Live O G (Xj s1.H) (w.heap.size+1):=fun hh=>(k3.keeps.live _ hh).elim a9 (by omega)
    have c1:w.heap.size+1<w3.heap.size:=(Ya.1 a7).1;have b1:∀(m:Option Code),(Instr.endRound (w.heap.size+1) m).run P w3=.ok (.bool m.isNone) (w3.putObj (w.heap.size+1) (.loop (o (if m.isNone then .ready else .done) m)))/\
      (w3.putObj (w.heap.size+1) (.loop (o (if m.isNone then .ready else .done) m))).heap[w.heap.size+1]? =some (.loop (o (if m.isNone then .ready else .done) m))/\
      X3 (w3.putObj (w.heap.size+1) (.loop (o (if m.isNone then .ready else .done) m))) O G (Xj s1.H)/\
      Wz lo nt O (w3.putObj (w.heap.size+1) (.loop (o (if m.isNone then .ready else .done) m))) G (Xj s1.H) N s.T/\
      Wy O w μ (Xj s.H) (w3.putObj (w.heap.size+1) (.loop (o (if m.isNone then .ready else .done) m))) G (Xj s1.H):=by
     intro m;refine⟨?_,World.putObj_heap_same c1,k1.same (U6 a7 (g _) (g _)),(d7.mono k3).same a7 (g _) (fun _ h=>by cases h) (g _),T9 hI (c2.trans k3) (by omega) _⟩;have:=run_endRound (P:=P) m a7;rw[t]at this⊢;exact this
    cases e1 with
    |normal=>
     obtain⟨f1,f2,f3,f4,f5⟩:=b1 none;exact⟨_,_,f1,.inl ⟨rfl,s1.H,G,u,f3,f4,f5,f2,c4⟩⟩
    |ret=>
     simp only[Za,Zp]at u;obtain⟨rfl,rfl⟩:=u;obtain⟨f1,f2,f3,f4,f5⟩:=b1 (some .ret);exact⟨_,_,f1,.inr ⟨rfl,.ret,G,f2,f3,f4,f5,.inl ⟨rfl,rfl⟩⟩⟩
    |exit id=>
     simp only[Za,Zp]at u;obtain⟨rfl,rfl⟩:=u;obtain⟨f1,f2,f3,f4,f5⟩:=b1 (some (.exit id));exact⟨_,_,f1,.inr ⟨rfl,.exit id,G,f2,f3,f4,f5,.inr ⟨id,rfl,rfl⟩⟩⟩
   ·simp at a6
  ·rintro e W2 ⟨⟨v,rfl⟩,(⟨H,j,u,S,B,Y,A,_⟩|⟨c,j,A,S,B,Y,hc⟩)⟩
   ·rw[List.drop_length]at u;simp only[Tp,Za,Zp]at u;obtain⟨rfl,rfl⟩:=u;exact⟨none,_,by have:=run_endLoop (P:=P) A (by rw[t];simp);rw[t]at this;exact this,
     hk N _ j (S.same (U6 A (g _) (g _))) (B.same A (g _) (fun _ h=>by cases h) (g _)) (T9 hI Y (by omega) _)⟩
   ·refine⟨some c,_,by have:=run_endLoop (P:=P) A (by rw[t];simp);rw[t]at this;exact this,?_⟩;have:=hk N _ j (S.same (U6 A (g _) (g {o .done (some c)with state:=.exhausted}))) (B.same A (g _) (fun _ h=>by cases h) (g _)) (T9 hI Y (by omega) _);rw[t]at this;rcases hc with⟨rfl,rfl⟩|⟨id,rfl,rfl⟩
    ·exact wpIn_ret this
    ·exact wpIn_exit this
theorem Ps (E:Xa)(hE:Ww P E)(hD:Nj P E)(K o nt:Nat):∀xc:XH,IC P E K o nt xc:=by
 intro xc;induction xc with
 |skip=>
  intro O F n lo A m c B s M I b a w r z g Q y;simp only[XI,Za,Zp]at b;obtain⟨rfl,rfl⟩:=b;have:=y a w r z g (Wy.refl _ _ _ _);rcases UM B with rfl|⟨l,rfl⟩
  ·exact wpIn_skip this
  ·exact wpIn_label this
 |region d os=>
  intro O F n lo A m c B s M I b a w r z g Q y;obtain⟨id,a0,V,rfl,hm,hf,b3⟩:=UM B;cases d with
  |false=>
   have e0:=b3 rfl;subst e0;simp only[XI,jI]at b;cases v:UY E o V s with
   |none=>simp[v]at b
   |some J=>
   simp only[v,Za,Zp]at b;obtain⟨rfl,rfl⟩:=b;refine wpIn_region_list ?_;have:=jG (O:=O) (Q:=Q) E hE A n o a0.toList a0.toList V hm s J a w r v z g y;simpa using this
  |true=>
   obtain⟨a6,rfl⟩:=hf rfl;simp only[XI]at b;cases v:TB E o (WN [] V) s with
   |none=>simp[v]at b
   |some J=>
   simp only[v,Za,Zp]at b;obtain⟨rfl,rfl⟩:=b;exact hD F n A O lo o nt id a0 V (WN [] V) [] hm a6 (ZE _).symm rfl s J J v rfl a w r z g Q y
 |RP a3 a9=>
  intro O F n lo A m c B s M I b a w r z g Q y;simp only[XH.erase]at B;cases a8:Si a3.length a9 with
  |false=>rw[a8,cond_false]at B;exact(UM B).elim
  |true=>
  rw[a8,cond_true]at B;obtain⟨id,a0,V,rfl,hm,hf,_⟩:=UM B;obtain⟨a6,b4⟩:=hf rfl;simp only[XI,P3]at b;cases v:TB E o a3 s with
  |none=>simp[v]at b
  |some J=>
  simp only[v]at b;cases a5:UY E o a9 J with
  |none=>simp[a5]at b
  |some s2=>
  simp only[a5,Za,Zp]at b;obtain⟨rfl,rfl⟩:=b;exact hD F n A O lo o nt id a0 V a3 a9 hm a6 b4.symm a8 s J s2 v a5 a w r z g Q y
 |seq X xb x Z=>
  intro O F n lo A m c B s M I b a w r z g Q y;obtain⟨L,cb,rfl,u,Y⟩:=UM B;have C:F=Fence.wide\/X.flat=true:=m.imp (fun h=>h) fun h=>by simp only[XH.flat,Zs]at h;exact h.1
  have a7:F=Fence.wide\/xb.flat=true:=m.imp (fun h=>h) fun h=>by simp only[XH.flat,Zs]at h;exact h.2
  simp only[XI]at b;cases v:XI E K o X s with
  |none=>simp[v]at b
  |some q=>
  obtain⟨e1,J⟩:=q;refine wpIn_seq ?_;cases e1 with
  |normal=>
   simp only[v]at b;exact x O F n lo A C L u s .normal J v a w r z g _ fun G D i N R S=>Z O F n lo A a7 cb Y J M I b G D i N R Q fun a2 w2 b1 g1 g2 g3=>y a2 w2 b1 g1 g2 (S.trans g3)
  |exit id=>
   simp only[v,Za,Zp]at b;obtain⟨rfl,rfl⟩:=b;exact x O F n lo A C L u s (.exit id) J v a w r z g _ fun G D i N R S=>y G D i N R S
  |ret=>
   simp only[v,Za,Zp]at b;obtain⟨rfl,rfl⟩:=b;exact x O F n lo A C L u s .ret J v a w r z g _ fun G D i N R S=>y G D i N R S
 |cond q X xb x Z=>
  intro O F n lo A m c B s M I b a w r z g Q y;obtain⟨p,L,cb,rfl,hp,u,Y⟩:=UM B;have C:F=Fence.wide\/X.flat=true:=m.imp (fun h=>h) fun h=>by simp only[XH.flat,Zs]at h;exact h.1
  have a7:F=Fence.wide\/xb.flat=true:=m.imp (fun h=>h) fun h=>by simp only[XH.flat,Zs]at h;exact h.2
  simp only[XI]at b;split at b
  ·rename_i hq;exact wpIn_cond_true (g.eval p q _ hp hq).Rs (x O F n lo A C L u s M I b a w r z g Q y)
  ·rename_i hq;exact wpIn_cond_false (g.eval p q _ hp hq).Rs (Z O F n lo A a7 cb Y s M I b a w r z g Q y)
  ·simp at b
 |block id X x=>
  intro O F n lo A m c B s M I b a w r z g Q y;obtain⟨L,rfl,u⟩:=UM B;have C:F=Fence.wide\/X.flat=true:=m.imp (fun h=>h) fun h=>by simpa only[XH.flat]using h
  simp only[XI]at b;cases v:XI E K o X s with
  |none=>simp[v]at b
  |some q=>
  obtain⟨e1,J⟩:=q;refine wpIn_block ?_;cases e1 with
  |normal=>
   simp only[v,Za,Zp]at b;obtain⟨rfl,rfl⟩:=b;exact x O F n lo A C L u s .normal J v a w r z g _ fun G D i N R S=>y G D i N R S
  |ret=>
   simp only[v,Za,Zp]at b;obtain⟨rfl,rfl⟩:=b;exact x O F n lo A C L u s .ret J v a w r z g _ fun G D i N R S=>y G D i N R S
  |exit j=>
   simp only[v]at b;refine x O F n lo A C L u s (.exit j) J v a w r z g _ fun G D i N R S=> ?_
   show(if j=id then Q .normal G D else Q (.exit j) G D);by_cases e:j=id
   ·subst e;simp only[beq_self_eq_true,cond_true,Za,Zp]at b;obtain⟨rfl,rfl⟩:=b;rw[if_pos rfl];exact y G D i N R S
   ·have :(j==id)=false:=by simpa using e
    simp only[this,cond_false,Za,Zp]at b;obtain⟨rfl,rfl⟩:=b;rw[if_neg e];exact y G D i N R S
 |loop X x=>
  intro O F n lo A m c B s M I b a w r z g Q y;obtain⟨L,rfl,u⟩:=UM B;have C:F=Fence.wide\/X.flat=true:=m.imp (fun h=>h) fun h=>by simpa only[XH.flat]using h
  simp only[XI]at b;refine wpIn_loop_rounds K ?_;have b2:∀(k:Nat) (s:St) (a:Act) (w:World) (r:Nat->Nat),OO (fun s=>XI E K o X s) k s=some (M,I)->X3 w O r (Xj s.H)->Wz lo nt O w r (Xj s.H) a s.T->
    (∀G D i,X3 D O i (Xj I.H)->Wz lo nt O D i (Xj I.H) G I.T->Wy O w r (Xj s.H) D i (Xj I.H)->Q (FB M) G D)->Code.roundsIn F n P L Q k a w:=by
   intro k;induction k with
   |zero=>intro s a w r b;simp[OO]at b
   |succ k ih=>
    intro s a w r b z g y;simp only[OO]at b;cases v:XI E K o X s with
    |none=>simp[v]at b
    |some q=>
    obtain⟨e1,J⟩:=q;show L.wpIn F n P (Exit.then (Code.roundsIn F n P L Q k) Q) a w;cases e1 with
    |normal=>
     simp only[v]at b;exact x O F n lo A C L u s .normal J v a w r z g _ fun G D i N R S=>ih J G D i b N R fun a2 w2 b1 g1 g2 g3=>y a2 w2 b1 g1 g2 (S.trans g3)
    |exit id=>
     simp only[v,Za,Zp]at b;obtain⟨rfl,rfl⟩:=b;exact x O F n lo A C L u s (.exit id) J v a w r z g _ fun G D i N R S=>y G D i N R S
    |ret=>
     simp only[v,Za,Zp]at b;obtain⟨rfl,rfl⟩:=b;exact x O F n lo A C L u s .ret J v a w r z g _ fun G D i N R S=>y G D i N R S
  exact b2 K s a w r b z g y
 |VM ks X x=>
  intro O F n lo A m c B s M I b a w r z g Q y;simp only[XI,Qn]at b;exact x O F n lo A m c B ⟨V3 s.T ks,s.H⟩ M I b a w r z ⟨g.nb,g.sz,fun t d hd=>g.slot t d (Qq _ _ _ _ hd)⟩ Q y
 |scope X x=>
  intro O F n lo A m c B s M I b a w r z g Q y;obtain⟨L,rfl,u⟩:=UM B;simp only[XI]at b;obtain rfl:F=Fence.wide:=m.resolve_right (by simp[XH.flat]);refine wpIn_wide.2 (wp_scope_straight ((wpIn_wide (n:=n)).1 (x O Fence.wide n lo A (.inl rfl) L u s M I b a w r z g _ fun G D i N R S=> ?_)));have:=y G D i N R S;cases M<;>exact this
 |exit id=>
  intro O F n lo A m c B s M I b a w r z g Q y;have a4:c=.exit id:=UM B;subst a4;simp only[XI,Za,Zp]at b;obtain⟨rfl,rfl⟩:=b;exact wpIn_exit (y a w r z g (Wy.refl _ _ _ _))
 |ret=>
  intro O F n lo A m c B s M I b a w r z g Q y;have a4:c=.ret:=UM B;subst a4;simp only[XI,Za,Zp]at b;obtain⟨rfl,rfl⟩:=b;exact wpIn_ret (y a w r z g (Wy.refl _ _ _ _))
 |Og f b7 a3 body b6 Z=>
  intro O F n lo A m c B s M I b a w r z g Q y;obtain rfl:F=Fence.wide:=m.resolve_right (by simp[XH.flat]);obtain⟨p,vs,L,cb,rfl,rfl,b5,hp,u,Y⟩:=UM B;simp only[XI]at b;split at b
  ·rename_i gf W hq;cases a1:E.iter gf W with
   |none=>simp[a1]at b
   |some b0=>
   simp only[a1]at b;obtain⟨U,b⟩:=Wg b;rw[Zs,Zs]at U;exact EE (fun l n=>b6 O (Fence.wide.inRound l) n 0 (.inr ⟨l,rfl⟩) (.inr U.1.1)) (fun l n=>Z O (Fence.wide.inRound l) n 0 (.inr ⟨l,rfl⟩) (.inr U.1.2)) p vs L cb b5 f hp u Y gf W b0 U.2 (hE.iter gf W b0 a1).1 (hE.iter gf W b0 a1).2 s M I hq b n lo a w r z g Q y
  ·simp at b
end
end Go.Ev
