/- Code: the interpreter's run gives the weakest precondition. -/
import Derived.Test.YtidginchkjhobaaGreatEvSeq
import Derived.LoopN
import Derived.Scope
namespace Go.Ev
open Go.RowKit
section
variable {lo:Nat}{P:Program}{O:BS}
def HG:Ex->Exit
 | .normal=>.normal
 | .exit id=>.exit id
 | .ret=>.ret
def NL (P:Program)(E:Xa):Prop:=
 ∀(F:Fence) (n:Nat),Uw F->∀(O:BS) (lo base nt id:Nat) (ops:Array Oper) (os pre suf:O'),Xw (Tv P nt ops.toList) ops.toList=some os->kH (W1 [] os)=true->W1 [] os=pre++suf->SE pre.length suf=true->
  ∀(s s1 s':St),TK E base pre s=some s1->U8 E base suf s1=some s'->∀(a:Act) (w:World) (μ:Nat->Nat),
  X1 w O μ (Xj s.H)->WM lo nt O w μ (Xj s.H) a s.T->∀(Q:Exit->Act->World->Prop),
  (∀a' w' μ',X1 w' O μ' (Xj s'.H)->WM lo nt O w' μ' (Xj s'.H) a' s'.T->WL O w μ (Xj s.H) w' μ' (Xj s'.H)->Q .normal a' w')->(Code.region id ops true).wpIn F n P Q a w
theorem Qw {b:Type}(T):∀a (k:List (Nat×DV)->b),ue T a k=k (V8 T a)
 |[],_=>rfl
 |n::ns,k=>by
  simp only[ue,V8];cases Xi T n with
  |none=>exact Qw T ns k
  |some v=>exact Qw T ns _
theorem Qy (T):∀b t d,Xi (V8 T b) t=some d->Xi T t=some d
 |[],t,d,h=>by simp[V8,Xi]at h
 |n::ns,t,d,h=>by
  simp only[V8]at h;cases a:Xi T n with
  |none=>simp only[a]at h;exact Qy T ns t d h
  |some v=>
   simp only[a,U2]at h;by_cases e:n=t
   ·grind
   ·rw[if_neg e]at h;exact Qy T ns t d h
theorem kR (E)(a):∀b s,U8 E a (b.map Xz.bare) s=U8 E a b s
 |[],_=>rfl
 |o::b,s=>by
  simp only[Zt,U8,kR E a b];rfl
def xW (P:Program)(E:Xa)(K base nt:Nat)(O:BS)(F:Fence)(n lo:Nat)(xc:XN):Prop:=
 ∀(c:Code),XS P nt c=some xc.erase->∀(s:St) (ex:Ex) (s':St),XP E K base xc s=some (ex,s')->∀(a:Act) (w:World) (μ:Nat->Nat),X1 w O μ (Xj s.H)->WM lo nt O w μ (Xj s.H) a s.T->
  ∀(Q:Exit->Act->World->Prop),(∀a' w' μ',X1 w' O μ' (Xj s'.H)->WM lo nt O w' μ' (Xj s'.H) a' s'.T->WL O w μ (Xj s.H) w' μ' (Xj s'.H)->Q (HG ex) a' w')->c.wpIn F n P Q a w
def Kx (P:Program)(E:Xa)(K base nt:Nat)(xc:XN):Prop:=
 ∀(O:BS) (F:Fence) (n lo:Nat),Uw F->(F=Fence.wide\/xc.flat=true)->xW P E K base nt O F n lo xc
theorem UW {e}{c}{x}(j:XS P e c=some x):
  match x with
  | .skip=>c=.skip\/∃l,c=.label l
  | .region d o=>∃id h i,c=.region id h d/\Xw (Tv P e h.toList) h.toList=some i/\(d=true->kH (W1 [] i)=true/\o=W1 [] i)/\(d=false->o=i.map Xz.bare)
  | .seq g n=>∃a b,c=.seq a b/\XS P e a=some g/\XS P e b=some n
  | .cond q g n=>∃p a b,c=.cond p a b/\XJ p=some q/\XS P e a=some g/\XS P e b=some n
  | .block id g=>∃a,c=.block id a/\XS P e a=some g
  | .loop g=>∃a,c=.loop a/\XS P e a=some g
  | .scope g=>∃a,c=.scope a/\XS P e a=some g
  | .exit id=>c=.exit id
  | .ret=>c=.ret
  | .OJ q r g n=>∃p k a b,c=.rangeFunc p k a b/\r=k.toList/\(∀v∈r,v<e)/\XJ p=some q/\XS P e a=some g/\XS P e b=some n
  | .R2 _ _=>False
  | .VS _ _=>False:=by
 cases c with
 |skip=>grind [XS]
 |label l=>grind [XS]
 |region id h d=>
  simp only[XS]at j
  grind
 |seq a b=>
  grind [XS]
 |cond p a b=>
  grind [XS]
 |block id a=>
  grind [XS]
 |loop a=>
  grind [XS]
 |rangeFunc f v a b=>
  simp only[XS]at j;split at j
  ·rename_i q g n s t u;split at j<;>simp only[Zb,reduceCtorEq]at j
   grind [QG]
  ·simp at j
 |exit id=>grind [XS]
 |scope a=>
  grind [XS]
 |goto l=>simp[XS]at j
 |ret=>grind [XS]
 |refuse m=>simp[XS]at j
theorem bS:∀a b T c,Pp a b T=some c->a.length=b.length
 |[],[],_,_,_=>rfl
 |[],_::_,_,_,h=>by simp[Pp]at h
 |_::_,[],_,_,h=>by simp[Pp]at h
 |_::vs,_::b,_,c,h=>by simp only[Pp]at h;simp[bS vs b _ c h]
theorem fL {w:World}{μ:Nat->Nat}{h:HF}{nt:Nat}:∀(a:P') (f:List PV) (T b:List (Nat×DV)) (tmps:Array Value) (c:List Value),Pp a f T=some b->(∀v∈a,v<nt)->XE (fun v x=>XF w O μ h v (inj x)) c f->tmps.size=nt->
  (∀t d,Xi T t=some d->XF w O μ h (tmps.getD t undef) d)->((a.zip c).foldl (fun t (q:Nat×Value)=>t.setIfInBounds q.1 q.2) tmps).size=nt/\
   ∀t d,Xi b t=some d->XF w O μ h (((a.zip c).foldl (fun t (q:Nat×Value)=>t.setIfInBounds q.1 q.2) tmps).getD t undef) d
 |[],[],T,b,tmps,c,hs,_,_,hsz,hT=>by
  grind [Pp,List.zip_nil_left]
 |[],_::_,_,_,_,_,hs,_,_,_,_=>by simp[Pp]at hs
 |_::_,[],_,_,_,_,hs,_,_,_,_=>by simp[Pp]at hs
 |p::a,x::f,T,b,tmps,c,hs,hlt,hall,hsz,hT=>by
  cases hall with
  |@cons v _ g _ l i=>
  simp only[Pp]at hs;simp only[List.zip_cons_cons,List.foldl_cons];refine fL a f _ b _ g hs (fun q j=>hlt q (by simp[j])) i (by simpa using hsz) fun t d k=> ?_
  simp only[U2]at k;have m:p<tmps.size:=by simp_all
  by_cases e:p=t
  ·simp_all
  simp_all
theorem zX (a:Array Nat)(b:List Value)(tmps:Array Value):(a.zip b.toArray).foldl (fun t (q:Nat×Value)=>t.setIfInBounds q.1 q.2) tmps=(a.toList.zip b).foldl (fun t (q:Nat×Value)=>t.setIfInBounds q.1 q.2) tmps:=by grind [Array.toList_zip]
theorem GL {E:Xa}{K u nt:Nat}{Z body:XN}(d6:∀(l n:Nat),xW P E K u nt O (Fence.wide.inRound l) n 0 Z)(d5:∀(l n:Nat),xW P E K u nt O (Fence.wide.inRound l) n 0 body)
  (p:Operand) (z:Array Tmp) (ca cb:Code) (d3:∀v∈z.toList,v<nt) (f:VB) (hp:XJ p=some f) (c5:XS P nt ca=some Z.erase) (c6:XS P nt cb=some body.erase)
  (gf:Nat) (G:N') (a0:List (List PV)) (e4:Nat.blt gf bF=true) (b0:xS P gf G a0) (b2:rH P gf) (s:St) (ex:Ex) (s':St) (hq:f.eval s.T=some (.one (.p (.fn gf G))))
  (hr:Tz s.T (SG (fun s=>XP E K u Z s) (fun s=>XP E K u body s)) z.toList a0 s.H=some (ex,s')) (n lo:Nat) (a:Act) (w:World) (μ:Nat->Nat) (hI:X1 w O μ (Xj s.H)) (a4:WM lo nt O w μ (Xj s.H) a s.T)
  (Q:Exit->Act->World->Prop) (hk:∀M w' j,X1 w' O j (Xj s'.H)->WM lo nt O w' j (Xj s'.H) M s'.T->WL O w μ (Xj s.H) w' j (Xj s'.H)->Q (HG ex) M w'):(Code.rangeFunc p z ca cb).wpIn Fence.wide n P Q a w:=by
 refine wpIn_rangeFunc ?_;intro fn c8;have a7:∀(W:World) (j:Nat->Nat) (H:V') (a1:Act),WM lo nt O W j (Xj H) a1 s.T->∃cv:List Value,a1.eval p=.func (.func gf) #[] cv.toArray/\XE (Ws W (Live O j (Xj H))) cv G:=by
  intro W j H a1 h1;have hv:XH W O j (Xj H) (a1.eval p) (.p (.fn gf G)):=h1.eval p f _ hp hq;generalize a1.eval p=v at hv;cases hv with
  |p _ _ hp=>cases hp with
   |fn _ _ cv hl hc=>grind [oc,XE.Uq]
 obtain⟨cv,c7,_⟩:=a7 w μ s.H a a4;obtain⟨o,y⟩:∃o:LoopState->Option Code->Loop,o=fun st pe=>{state:=st,pending:=pe,fn,tmps:=a.tmps,params:=z,assign:=ca,body:=cb,defers:=w.heap.size}:=⟨_,rfl⟩
 obtain⟨L,S⟩:∃L,(w.alloc (.deferred (some []))).alloc (.loop (o .ready none))=L:=⟨_,rfl⟩;have c3:L.heap[w.heap.size+1]? =some (.loop (o .ready none)):=by
  grind [World.alloc_heap_new,World.size_alloc]
 have c2:L.heap[w.heap.size]? =some (.deferred (some [])):=by
  grind [Below.heap_alloc,World.alloc_heap_new]
 have e0:L.heap.size=w.heap.size+2:=by rw[<-S];simp
 have c4:∀k,k<w.heap.size->L.heap[k]? =w.heap[k]? :=fun k hk=>by
  grind [Below.heap_alloc]
 obtain⟨gm,gi⟩:=Tr (w':=L) hI (by omega) c4 (by rw[<-S];rfl) (by rw[<-S];rfl) (by rw[<-S];rfl);have c9:∀b,Live O μ (Xj s.H) b->b<w.heap.size:=by
  rintro b (hb|⟨id,e2,h1,_,rfl⟩)
  ·exact hI.lt b hb
  ·exact hI.lt_size h1
 let M:Act:={a with defers:=yQ w.heap.size::a.defers};have C:=a4.mono gm;have c0:WM lo nt O L μ (Xj s.H) M s.T:=by
  refine⟨⟨C.oy.1,Zu.2 ⟨fun d hd e=> ?_,C.oy.2.1⟩,fun d hd=> ?_⟩,C.sz,C.slot⟩
  ·obtain⟨D,rfl,_,h3,_⟩:=a4.oy.2.2 d hd
   grind [yQ]
  ·rcases Zk.1 hd with rfl|hd
   ·exact⟨w.heap.size,rfl,a4.oy.1,c2,fun hl=>by grind⟩
   ·exact C.oy.2.2 d hd
 have g:∀r:Loop,mO (.loop r):=fun r=>⟨(fun _ _ _ h=>by cases h),(fun _ _ h=>by cases h)⟩
 refine⟨w.heap.size+1,[yQ w.heap.size],L,{target:=.fn (.func gf) cv.toArray,args:=#[.func (.yield (w.heap.size+1)) #[] #[]]},L,gf,
  #[.func (.yield (w.heap.size+1)) #[] #[]]++cv.toArray,L,?_,?_,fun _ _=>trivial,?_,fun h=>by simp[Fence.wide]at h,?_⟩
 ·rw[<-S,y];exact run_enterLoop_outer _ _ _ _ _
 ·simp only[resolve,c7];simp[go_sem]
 ·have e1:∀(q:Array Value) (W:World),(callFunc gf q).run P W=.ok (.enter gf q) W:=b2
  grind [invoke]
 ·refine callsIn_wide.2 ((callsIn_wide (n:=0)).1 ?_);let R:=SG (fun s=>XP E K u Z s) (fun s=>XP E K u body s);refine(b0 (w.heap.size+1) cv
   (fun i W=>∃H j,Tz s.T R z.toList (a0.drop i) H=some (ex,s')/\X1 W O j (Xj H)/\WM lo nt O W j (Xj H) M s.T/\WL O w μ (Xj s.H) W j (Xj H)/\W.heap[w.heap.size+1]? =some (.loop (o .ready none))/\¬Live O j (Xj H) (w.heap.size+1))
   (fun W=>∃c j,W.heap[w.heap.size+1]? =some (.loop (o .done (some c)))/\X1 W O j (Xj s'.H)/\WM lo nt O W j (Xj s'.H) M s'.T/\WL O w μ (Xj s.H) W j (Xj s'.H)/\((c=.ret/\ex=.ret)\/∃id,c=.exit id/\ex=.exit id))
   ?_ ?_ L ⟨s.H,μ,hr,gi,c0,gm,c3,fun hl=>by grind⟩).mono ?_
  ·rintro i W ⟨H,j,_,_,h3,_⟩;obtain⟨e3,d8,d7⟩:=a7 W j H M h3;have :M.eval p=a.eval p:=by cases p<;>rfl
   grind
  ·rintro i W xs vs ⟨H,j,t,N,B,V,A,b7⟩ e6 Y;have d0:w.heap.size+1<W.heap.size:=(Yd.1 A).1;have a9:a0.drop i=xs::a0.drop (i+1):=by
    grind [Z0]
   rw[a9]at t;simp only[Tz]at t;cases I:Pp z.toList xs s.T with
   |none=>simp[I]at t
   |some T1=>
   simp only[I]at t;cases hb:R ⟨T1,H⟩with
   |none=>simp[hb]at t
   |some q=>
   obtain⟨e1,s1⟩:=q;simp only[hb]at t;have a2:SG (fun s=>XP E K u Z s) (fun s=>XP E K u body s) ⟨T1,H⟩=some (e1,s1):=hb;unfold SG at a2;split at a2
   ·rename_i s2 b9;have e5:vs.length=z.size:=by
     rw[Y.length,<-bS _ _ _ _ I];simp
    obtain⟨hz,X⟩:=fL (w:=W) (O:=O) (μ:=j) (h:=Xj H) (nt:=nt) z.toList xs s.T T1 a.tmps vs I d3 (Y.imp fun v x d4=>d4 O j (Xj H)) B.sz B.slot;rw[<-zX]at hz X;have hy:=run_yield (P:=P) (args:=vs.toArray) A (by grind);rw[y]at hy;refine⟨fn,_,ca,cb,hy,roundIn_of_wpIn c8 ?_⟩;refine d6 (w.heap.size+1) 0 ca c5 ⟨T1,H⟩ .normal s2 b9 _ W j N ⟨⟨Zw _,.nil,fun d hd=>by simp at hd⟩,hz,X⟩ _ fun a1 w1 J g1 g2 g3=> ?_
    have U:w1.heap[w.heap.size+1]? =some (.loop (o .ready none)):=(g3.keeps.VS _ d0 b7).trans A;have a6:¬Live O J (Xj s2.H) (w.heap.size+1):=fun hh=>(g3.keeps.live _ hh).elim b7 (by omega)
    have d9:w.heap.size+1<w1.heap.size:=(Yd.1 U).1;refine⟨_,run_beginRound U (by rw[y]),?_⟩;generalize a5:w1.putObj (w.heap.size+1) (.loop {o .ready none with state:=.busy})=w2;have b3:w2.heap[w.heap.size+1]? =some (.loop {o .ready none with state:=.busy}):=by grind [World.putObj_heap_same]
    have c1:X1 w2 O J (Xj s2.H):=by rw[<-a5];exact g1.same (Ti U (g _) (g _))
    have d1:WM 0 nt O w2 J (Xj s2.H) a1 s2.T:=by rw[<-a5];exact g2.same U (g _) (fun _ h=>by cases h) (g _)
    have d2:WM lo nt O w2 J (Xj s2.H) M s.T:=by rw[<-a5];exact(B.mono g3).same U (g _) (fun _ h=>by cases h) (g _)
    have b6:WL O w μ (Xj s.H) w2 J (Xj s2.H):=by rw[<-a5];exact Sn hI (V.trans g3) (by omega) _
    refine d5 (w.heap.size+1) 0 cb c6 s2 e1 s1 a2 a1 w2 J c1 d1 _ fun a3 w3 F k1 k2 k3=> ?_
    have b4:w.heap.size+1<w2.heap.size:=(Yd.1 b3).1;have b1:w3.heap[w.heap.size+1]? =some (.loop {o .ready none with state:=.busy}):=(k3.keeps.VS _ b4 a6).trans b3;have b8:¬Live O F (Xj s1.H) (w.heap.size+1):=fun hh=>(k3.keeps.live _ hh).elim a6 (by omega)
    have b5:w.heap.size+1<w3.heap.size:=(Yd.1 b1).1;have a8:∀(m:Option Code),(Instr.endRound (w.heap.size+1) m).run P w3=.ok (.bool m.isNone) (w3.putObj (w.heap.size+1) (.loop (o (if m.isNone then .ready else .done) m)))/\
      (w3.putObj (w.heap.size+1) (.loop (o (if m.isNone then .ready else .done) m))).heap[w.heap.size+1]? =some (.loop (o (if m.isNone then .ready else .done) m))/\
      X1 (w3.putObj (w.heap.size+1) (.loop (o (if m.isNone then .ready else .done) m))) O F (Xj s1.H)/\
      WM lo nt O (w3.putObj (w.heap.size+1) (.loop (o (if m.isNone then .ready else .done) m))) F (Xj s1.H) M s.T/\
      WL O w μ (Xj s.H) (w3.putObj (w.heap.size+1) (.loop (o (if m.isNone then .ready else .done) m))) F (Xj s1.H):=by
     intro m;refine⟨?_,World.putObj_heap_same b5,k1.same (Ti b1 (g _) (g _)),(d2.mono k3).same b1 (g _) (fun _ h=>by cases h) (g _),Sn hI (b6.trans k3) (by omega) _⟩
     simp_all [run_endRound]
    cases e1 with
    |normal=>
     obtain⟨f1,f2,f3,f4,f5⟩:=a8 none;exact⟨_,_,f1,.inl ⟨rfl,s1.H,F,t,f3,f4,f5,f2,b8⟩⟩
    |ret=>
     simp only[Zb,Zq]at t;obtain⟨rfl,rfl⟩:=t;obtain⟨f1,f2,f3,f4,f5⟩:=a8 (some .ret);exact⟨_,_,f1,.inr ⟨rfl,.ret,F,f2,f3,f4,f5,.inl ⟨rfl,rfl⟩⟩⟩
    |exit id=>
     simp only[Zb,Zq]at t;obtain⟨rfl,rfl⟩:=t;obtain⟨f1,f2,f3,f4,f5⟩:=a8 (some (.exit id));exact⟨_,_,f1,.inr ⟨rfl,.exit id,F,f2,f3,f4,f5,.inr ⟨id,rfl,rfl⟩⟩⟩
   ·simp at a2
  ·rintro e W2 ⟨⟨v,rfl⟩,(⟨H,j,t,N,B,V,A,_⟩|⟨c,j,A,N,B,V,hc⟩)⟩
   ·rw[List.drop_length]at t;simp only[Tz,Zb,Zq]at t;obtain⟨rfl,rfl⟩:=t;exact⟨none,_,by have:=run_endLoop (P:=P) A (by rw[y];simp);rw[y]at this;exact this,
     hk M _ j (N.same (Ti A (g _) (g _))) (B.same A (g _) (fun _ h=>by cases h) (g _)) (Sn hI V (by omega) _)⟩
   ·refine⟨some c,_,by have:=run_endLoop (P:=P) A (by rw[y];simp);rw[y]at this;exact this,?_⟩;have:=hk M _ j (N.same (Ti A (g _) (g {o .done (some c)with state:=.exhausted}))) (B.same A (g _) (fun _ h=>by cases h) (g _)) (Sn hI V (by omega) _);rw[y]at this;rcases hc with⟨rfl,rfl⟩|⟨id,rfl,rfl⟩
    ·exact wpIn_ret this
    ·exact wpIn_exit this
theorem PI (E:Xa)(hE:WI P E)(hD:NL P E)(K o nt:Nat):∀xc:XN,Kx P E K o nt xc:=by
 intro xc;induction xc with
 |skip=>
  intro O F n lo A m c B s M I b a w r z g Q y;simp only[XP,Zb,Zq]at b;obtain⟨rfl,rfl⟩:=b;have:=y a w r z g (WL.refl _ _ _ _);rcases UW B with rfl|⟨l,rfl⟩
  ·exact wpIn_skip this
  ·exact wpIn_label this
 |region d os=>
  intro O F n lo A m c B s M I b a w r z g Q y;obtain⟨id,a0,V,rfl,hm,hf,b2⟩:=UW B;cases d with
  |false=>
   have e0:=b2 rfl;subst e0;simp only[XP,kR]at b;cases v:U8 E o V s with
   |none=>simp[v]at b
   |some J=>
   simp only[v,Zb,Zq]at b;obtain⟨rfl,rfl⟩:=b;refine wpIn_region_list ?_;have:=kP (O:=O) (Q:=Q) E hE A n o a0.toList a0.toList V hm s J a w r v z g y;simpa using this
  |true=>
   obtain⟨a6,rfl⟩:=hf rfl;simp only[XP]at b;cases v:TK E o (W1 [] V) s with
   |none=>simp[v]at b
   |some J=>
   simp only[v,Zb,Zq]at b;obtain⟨rfl,rfl⟩:=b;exact hD F n A O lo o nt id a0 V (W1 [] V) [] hm a6 (ZJ _).symm rfl s J J v rfl a w r z g Q y
 |R2 a3 a9=>
  intro O F n lo A m c B s M I b a w r z g Q y;simp only[XN.erase]at B;cases a8:SE a3.length a9 with
  |false=>rw[a8,cond_false]at B;exact(UW B).elim
  |true=>
  rw[a8,cond_true]at B;obtain⟨id,a0,V,rfl,hm,hf,_⟩:=UW B;obtain⟨a6,b3⟩:=hf rfl;simp only[XP,Ox]at b;cases v:TK E o a3 s with
  |none=>simp[v]at b
  |some J=>
  simp only[v]at b;cases a5:U8 E o a9 J with
  |none=>simp[a5]at b
  |some s2=>
  simp only[a5,Zb,Zq]at b;obtain⟨rfl,rfl⟩:=b;exact hD F n A O lo o nt id a0 V a3 a9 hm a6 b3.symm a8 s J s2 v a5 a w r z g Q y
 |seq X xb x Z=>
  intro O F n lo A m c B s M I b a w r z g Q y;obtain⟨L,cb,rfl,u,Y⟩:=UW B;have C:F=Fence.wide\/X.flat=true:=m.imp (fun h=>h) fun h=>by grind [XN.flat]
  have a7:F=Fence.wide\/xb.flat=true:=m.imp (fun h=>h) fun h=>by grind [XN.flat]
  simp only[XP]at b;cases v:XP E K o X s with
  |none=>simp[v]at b
  |some q=>
  obtain⟨e1,J⟩:=q;refine wpIn_seq ?_;cases e1 with
  |normal=>
   simp only[v]at b;exact x O F n lo A C L u s .normal J v a w r z g _ fun G D i N R S=>Z O F n lo A a7 cb Y J M I b G D i N R Q fun a2 w2 b1 g1 g2 g3=>y a2 w2 b1 g1 g2 (S.trans g3)
  |exit id=>
   simp only[v,Zb,Zq]at b;obtain⟨rfl,rfl⟩:=b;exact x O F n lo A C L u s (.exit id) J v a w r z g _ fun G D i N R S=>y G D i N R S
  |ret=>
   simp only[v,Zb,Zq]at b;obtain⟨rfl,rfl⟩:=b;exact x O F n lo A C L u s .ret J v a w r z g _ fun G D i N R S=>y G D i N R S
 |cond q X xb x Z=>
  intro O F n lo A m c B s M I b a w r z g Q y;obtain⟨p,L,cb,rfl,hp,u,Y⟩:=UW B;have C:F=Fence.wide\/X.flat=true:=m.imp (fun h=>h) fun h=>by grind [XN.flat]
  have a7:F=Fence.wide\/xb.flat=true:=m.imp (fun h=>h) fun h=>by grind [XN.flat]
  simp only[XP]at b;split at b
  ·rename_i hq;exact wpIn_cond_true (g.eval p q _ hp hq).RK (x O F n lo A C L u s M I b a w r z g Q y)
  ·rename_i hq;exact wpIn_cond_false (g.eval p q _ hp hq).RK (Z O F n lo A a7 cb Y s M I b a w r z g Q y)
  ·simp at b
 |block id X x=>
  intro O F n lo A m c B s M I b a w r z g Q y;obtain⟨L,rfl,u⟩:=UW B;have C:F=Fence.wide\/X.flat=true:=m.imp (fun h=>h) fun h=>by grind [XN.flat]
  simp only[XP]at b;cases v:XP E K o X s with
  |none=>simp[v]at b
  |some q=>
  obtain⟨e1,J⟩:=q;refine wpIn_block ?_;cases e1 with
  |normal=>
   simp only[v,Zb,Zq]at b;obtain⟨rfl,rfl⟩:=b;exact x O F n lo A C L u s .normal J v a w r z g _ fun G D i N R S=>y G D i N R S
  |ret=>
   simp only[v,Zb,Zq]at b;obtain⟨rfl,rfl⟩:=b;exact x O F n lo A C L u s .ret J v a w r z g _ fun G D i N R S=>y G D i N R S
  |exit j=>
   simp only[v]at b;refine x O F n lo A C L u s (.exit j) J v a w r z g _ fun G D i N R S=> ?_
   show(if j=id then Q .normal G D else Q (.exit j) G D);by_cases e:j=id
   ·subst e;simp only[beq_self_eq_true,cond_true,Zb,Zq]at b;obtain⟨rfl,rfl⟩:=b;rw[if_pos rfl];exact y G D i N R S
   ·have :(j==id)=false:=by simpa using e
    simp only[this,cond_false,Zb,Zq]at b;obtain⟨rfl,rfl⟩:=b;rw[if_neg e];exact y G D i N R S
 |loop X x=>
  intro O F n lo A m c B s M I b a w r z g Q y;obtain⟨L,rfl,u⟩:=UW B;have C:F=Fence.wide\/X.flat=true:=m.imp (fun h=>h) fun h=>by grind [XN.flat]
  simp only[XP]at b;refine wpIn_loop_rounds K ?_;have b7:∀(k:Nat) (s:St) (a:Act) (w:World) (r:Nat->Nat),Nf (fun s=>XP E K o X s) k s=some (M,I)->X1 w O r (Xj s.H)->WM lo nt O w r (Xj s.H) a s.T->
    (∀G D i,X1 D O i (Xj I.H)->WM lo nt O D i (Xj I.H) G I.T->WL O w r (Xj s.H) D i (Xj I.H)->Q (HG M) G D)->Code.roundsIn F n P L Q k a w:=by
   intro k;induction k with
   |zero=>grind [Nf]
   |succ k ih=>
    intro s a w r b z g y;simp only[Nf]at b;cases v:XP E K o X s with
    |none=>simp[v]at b
    |some q=>
    obtain⟨e1,J⟩:=q;show L.wpIn F n P (Exit.then (Code.roundsIn F n P L Q k) Q) a w;cases e1 with
    |normal=>
     simp only[v]at b;exact x O F n lo A C L u s .normal J v a w r z g _ fun G D i N R S=>ih J G D i b N R fun a2 w2 b1 g1 g2 g3=>y a2 w2 b1 g1 g2 (S.trans g3)
    |exit id=>
     simp only[v,Zb,Zq]at b;obtain⟨rfl,rfl⟩:=b;exact x O F n lo A C L u s (.exit id) J v a w r z g _ fun G D i N R S=>y G D i N R S
    |ret=>
     simp only[v,Zb,Zq]at b;obtain⟨rfl,rfl⟩:=b;exact x O F n lo A C L u s .ret J v a w r z g _ fun G D i N R S=>y G D i N R S
  grind
 |VS ks X x=>
  intro O F n lo A m c B s M I b a w r z g Q y;simp only[XP,Qw]at b;exact x O F n lo A m c B ⟨V8 s.T ks,s.H⟩ M I b a w r z ⟨g.oy,g.sz,fun t d hd=>g.slot t d (Qy _ _ _ _ hd)⟩ Q y
 |scope X x=>
  intro O F n lo A m c B s M I b a w r z g Q y;obtain⟨L,rfl,u⟩:=UW B;simp only[XP]at b;obtain rfl:F=Fence.wide:=m.resolve_right (by simp[XN.flat]);refine wpIn_wide.2 (wp_scope_straight ((wpIn_wide (n:=n)).1 (x O Fence.wide n lo A (.inl rfl) L u s M I b a w r z g _ fun G D i N R S=> ?_)));have:=y G D i N R S;cases M<;>exact this
 |exit id=>
  intro O F n lo A m c B s M I b a w r z g Q y;have a4:c=.exit id:=UW B;subst a4;simp only[XP,Zb,Zq]at b;obtain⟨rfl,rfl⟩:=b;exact wpIn_exit (y a w r z g (WL.refl _ _ _ _))
 |ret=>
  intro O F n lo A m c B s M I b a w r z g Q y;have a4:c=.ret:=UW B;subst a4;simp only[XP,Zb,Zq]at b;obtain⟨rfl,rfl⟩:=b;exact wpIn_ret (y a w r z g (WL.refl _ _ _ _))
 |OJ f b6 a3 body b5 Z=>
  intro O F n lo A m c B s M I b a w r z g Q y;obtain rfl:F=Fence.wide:=m.resolve_right (by simp[XN.flat]);obtain⟨p,vs,L,cb,rfl,rfl,b4,hp,u,Y⟩:=UW B;simp only[XP]at b;split at b
  ·rename_i gf W hq;cases a1:E.iter gf W with
   |none=>simp[a1]at b
   |some b0=>
   simp only[a1]at b;obtain⟨U,b⟩:=Wq b;rw[Zs,Zs]at U;exact GL (fun l n=>b5 O (Fence.wide.inRound l) n 0 (.inr ⟨l,rfl⟩) (.inr U.1.1)) (fun l n=>Z O (Fence.wide.inRound l) n 0 (.inr ⟨l,rfl⟩) (.inr U.1.2)) p vs L cb b4 f hp u Y gf W b0 U.2 (hE.iter gf W b0 a1).1 (hE.iter gf W b0 a1).2 s M I hq b n lo a w r z g Q y
  ·simp at b
end
