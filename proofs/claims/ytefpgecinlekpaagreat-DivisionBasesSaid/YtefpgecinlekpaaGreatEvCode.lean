/- Code: the interpreter's run gives the weakest precondition. -/
import Derived.Test.YtefpgecinlekpaaGreatEvSeq
import Derived.LoopN
import Derived.Scope
namespace Go.Ev
open Go.RowKit
section
variable {lo:Nat}{P:Program}{O:BS}
def exOf:Ex->Exit
 | .normal=>.normal
 | .exit id=>.exit id
 | .ret=>.ret
def Rh (P:Program)(E:Oracle):Prop:=
 ∀(F:Fence) (n:Nat),Vc F->∀(O:BS) (lo base nt id:Nat) (ops:Array Oper) (os pre suf:List XOper),Xl (Vp P nt ops.toList) ops.toList=some os->flowOk (X4 [] os)=true->X4 [] os=pre++suf->Sh pre.length suf=true->
  ∀(s s1 s':St),Vz E base pre s=some s1->Vi E base suf s1=some s'->∀(a:Act) (w:World) (μ:Nat->Nat),
  HInv w O μ (Xi s.H)->Slots lo nt O w μ (Xi s.H) a s.T->∀(Q:Exit->Act->World->Prop),
  (∀a' w' μ',HInv w' O μ' (Xi s'.H)->Slots lo nt O w' μ' (Xi s'.H) a' s'.T->Mono O w μ (Xi s.H) w' μ' (Xi s'.H)->Q .normal a' w')->(Code.region id ops true).wpIn F n P Q a w
theorem TG {β:Type}(T:List (Nat×DV)):∀(ks:List Nat) (k:List (Nat×DV)->β),keepK T ks k=k (WR T ks)
 |[],_=>rfl
 |n::ns,k=>by
  simp only[keepK,WR]
  cases Xf T n with
  |none=>exact TG T ns k
  |some v=>exact TG T ns _
theorem TH (T:List (Nat×DV)):∀(ks:List Nat) (t:Nat) (d:DV),Xf (WR T ks) t=some d->Xf T t=some d
 |[],t,d,h=>by simp[WR,Xf]at h
 |n::ns,t,d,h=>by
  simp only[WR]at h
  cases hn:Xf T n with
  |none=>simp only[hn]at h;exact TH T ns t d h
  |some v=>
   simp only[hn,Vv]at h
   by_cases e:n=t
   ·subst e;rw[if_pos rfl]at h;rw[hn];exact h
   ·rw[if_neg e]at h;exact TH T ns t d h
theorem evOps_bare (E:Oracle)(base:Nat):∀(os:List XOper) (s:St),Vi E base (os.map XOper.bare) s=Vi E base os s
 |[],_=>rfl
 |o::os,s=>by
  simp only[Zx,Vi,evOps_bare E base os];rfl
def CodeAt (P:Program)(E:Oracle)(K base nt:Nat)(O:BS)(F:Fence)(n lo:Nat)(xc:XCode):Prop:=
 ∀(c:Code),Xz P nt c=some xc.erase->∀(s:St) (ex:Ex) (s':St),Xp E K base xc s=some (ex,s')->∀(a:Act) (w:World) (μ:Nat->Nat),HInv w O μ (Xi s.H)->Slots lo nt O w μ (Xi s.H) a s.T->
  ∀(Q:Exit->Act->World->Prop),(∀a' w' μ',HInv w' O μ' (Xi s'.H)->Slots lo nt O w' μ' (Xi s'.H) a' s'.T->Mono O w μ (Xi s.H) w' μ' (Xi s'.H)->Q (exOf ex) a' w')->c.wpIn F n P Q a w
def CodeOk (P:Program)(E:Oracle)(K base nt:Nat)(xc:XCode):Prop:=
 ∀(O:BS) (F:Fence) (n lo:Nat),Vc F->(F=Fence.wide\/xc.flat=true)->CodeAt P E K base nt O F n lo xc
theorem Vq {nt:Nat}{c:Code}{x:XCode}(hc:Xz P nt c=some x):
  match x with
  | .skip=>c=.skip\/∃l,c=.label l
  | .region d os=>∃id ops os0,c=.region id ops d/\Xl (Vp P nt ops.toList) ops.toList=some os0/\(d=true->flowOk (X4 [] os0)=true/\os=X4 [] os0)/\(d=false->os=os0.map XOper.bare)
  | .seq xa xb=>∃a b,c=.seq a b/\Xz P nt a=some xa/\Xz P nt b=some xb
  | .cond q xa xb=>∃p a b,c=.cond p a b/\Xm p=some q/\Xz P nt a=some xa/\Xz P nt b=some xb
  | .block id xa=>∃a,c=.block id a/\Xz P nt a=some xa
  | .loop xa=>∃a,c=.loop a/\Xz P nt a=some xa
  | .scope xa=>∃a,c=.scope a/\Xz P nt a=some xa
  | .exit id=>c=.exit id
  | .ret=>c=.ret
  | .rfun q vs xa xb=>∃p vars a b,c=.rangeFunc p vars a b/\vs=vars.toList/\(∀v∈vs,v<nt)/\Xm p=some q/\Xz P nt a=some xa/\Xz P nt b=some xb
  | .regionS _ _=>False
  | .keep _ _=>False:=by
 cases c with
 |skip=>simp only[Xz,Za]at hc;subst hc;exact .inl rfl
 |label l=>simp only[Xz,Za]at hc;subst hc;exact .inr ⟨l,rfl⟩
 |region id ops d=>
  simp only[Xz]at hc
  cases hm:Xl (Vp P nt ops.toList) ops.toList with
  |none=>simp[hm]at hc
  |some os=>
  simp only[hm]at hc
  cases d with
  |false=>simp only[Zs,if_false,Za]at hc;subst hc;exact⟨id,ops,os,rfl,hm,by simp,fun _=>rfl⟩
  |true=>
   simp only[if_true]at hc
   split at hc<;>simp only[Za,reduceCtorEq]at hc
   rename_i hf
   subst hc;exact⟨id,ops,os,rfl,hm,fun _=>⟨hf,rfl⟩,by simp⟩
 |seq a b=>
  simp only[Xz]at hc
  split at hc<;>simp only[Za,reduceCtorEq]at hc
  rename_i xa xb ha hb
  subst hc;exact⟨a,b,rfl,ha,hb⟩
 |cond p a b=>
  simp only[Xz]at hc
  split at hc<;>simp only[Za,reduceCtorEq]at hc
  rename_i q xa xb hp ha hb
  subst hc;exact⟨p,a,b,rfl,hp,ha,hb⟩
 |block id a=>
  simp only[Xz]at hc
  split at hc<;>simp only[Za,reduceCtorEq]at hc
  rename_i xa ha
  subst hc;exact⟨a,rfl,ha⟩
 |loop a=>
  simp only[Xz]at hc
  split at hc<;>simp only[Za,reduceCtorEq]at hc
  rename_i xa ha
  subst hc;exact⟨a,rfl,ha⟩
 |rangeFunc f v a b=>
  simp only[Xz]at hc
  split at hc
  ·rename_i q xa xb h1 h2 h3
   split at hc<;>simp only[Za,reduceCtorEq]at hc
   rename_i hv
   subst hc
   exact⟨f,v,a,b,rfl,rfl,fun x hx=>TL (ZP.1 hv x hx),h1,h2,h3⟩
  ·simp at hc
 |exit id=>simp only[Xz,Za]at hc;subst hc;rfl
 |scope a=>
  simp only[Xz]at hc
  split at hc<;>simp only[Za,reduceCtorEq]at hc
  rename_i xa ha
  subst hc;exact⟨a,rfl,ha⟩
 |goto l=>simp[Xz]at hc
 |ret=>simp only[Xz,Za]at hc;subst hc;rfl
 |refuse m=>simp[Xz]at hc
theorem setTs_length:∀(vars:List Nat) (xs:List PV) (T T1:List (Nat×DV)),Sk vars xs T=some T1->vars.length=xs.length
 |[],[],_,_,_=>rfl
 |[],_::_,_,_,h=>by simp[Sk]at h
 |_::_,[],_,_,h=>by simp[Sk]at h
 |_::vs,_::xs,_,T1,h=>by simp only[Sk]at h;simp[setTs_length vs xs _ T1 h]
theorem setTs_slots {w:World}{μ:Nat->Nat}{h:HF}{nt:Nat}:∀(vars:List Nat) (xs:List PV) (T T1:List (Nat×DV)) (tmps:Array Value) (vs:List Value),Sk vars xs T=some T1->(∀v∈vars,v<nt)->All2 (fun v x=>Xo w O μ h v (inj x)) vs xs->tmps.size=nt->
  (∀t d,Xf T t=some d->Xo w O μ h (tmps.getD t undef) d)->((vars.zip vs).foldl (fun t (q:Nat×Value)=>t.setIfInBounds q.1 q.2) tmps).size=nt/\
   ∀t d,Xf T1 t=some d->Xo w O μ h (((vars.zip vs).foldl (fun t (q:Nat×Value)=>t.setIfInBounds q.1 q.2) tmps).getD t undef) d
 |[],[],T,T1,tmps,vs,hs,_,_,hsz,hT=>by
  simp only[Sk,Za]at hs;subst hs
  simp only[List.zip_nil_left,List.foldl_nil]
  exact⟨hsz,hT⟩
 |[],_::_,_,_,_,_,hs,_,_,_,_=>by simp[Sk]at hs
 |_::_,[],_,_,_,_,hs,_,_,_,_=>by simp[Sk]at hs
 |p::vars,x::xs,T,T1,tmps,vs,hs,hlt,hall,hsz,hT=>by
  cases hall with
  |@cons v _ vs' _ h1 h2=>
  simp only[Sk]at hs
  simp only[List.zip_cons_cons,List.foldl_cons]
  refine setTs_slots vars xs _ T1 _ vs' hs (fun q hq=>hlt q (by simp[hq])) h2 (by simpa using hsz) fun t d ht=> ?_
  simp only[Vv]at ht
  have hp:p<tmps.size:=by rw[hsz];exact hlt p (by simp)
  by_cases e:p=t
  ·subst e
   rw[if_pos rfl]at ht;cases ht
   rw[ZF,Yw hp];exact h1
  ·rw[if_neg e]at ht
   rw[ZF,Array.getElem?_setIfInBounds_ne e,<-ZF]
   exact hT t d ht
theorem zip_foldl (vars:Array Nat)(vs:List Value)(tmps:Array Value):(vars.zip vs.toArray).foldl (fun t (q:Nat×Value)=>t.setIfInBounds q.1 q.2) tmps=(vars.toList.zip vs).foldl (fun t (q:Nat×Value)=>t.setIfInBounds q.1 q.2) tmps:=by
 rw[<-Array.foldl_toList,Array.toList_zip]
theorem rfun_ok {E:Oracle}{K base nt:Nat}{pre body:XCode}(ihp:∀(l n:Nat),CodeAt P E K base nt O (Fence.wide.inRound l) n 0 pre)(ihb:∀(l n:Nat),CodeAt P E K base nt O (Fence.wide.inRound l) n 0 body)
  (p:Operand) (vars:Array Tmp) (ca cb:Code) (hvs:∀v∈vars.toList,v<nt) (f:XOpd) (hp:Xm p=some f) (hca:Xz P nt ca=some pre.erase) (hcb:Xz P nt cb=some body.erase)
  (gf:Nat) (caps:List PL) (xss:List (List PV)) (hgf:Nat.blt gf bnd=true) (hiter:IterOk P gf caps xss) (hent:Ent P gf) (s:St) (ex:Ex) (s':St) (hq:f.eval s.T=some (.one (.p (.fn gf caps))))
  (hr:VW s.T (Uo (fun s=>Xp E K base pre s) (fun s=>Xp E K base body s)) vars.toList xss s.H=some (ex,s')) (n lo:Nat) (a:Act) (w:World) (μ:Nat->Nat) (hI:HInv w O μ (Xi s.H)) (hsl:Slots lo nt O w μ (Xi s.H) a s.T)
  (Q:Exit->Act->World->Prop) (hk:∀a' w' μ',HInv w' O μ' (Xi s'.H)->Slots lo nt O w' μ' (Xi s'.H) a' s'.T->Mono O w μ (Xi s.H) w' μ' (Xi s'.H)->Q (exOf ex) a' w'):(Code.rangeFunc p vars ca cb).wpIn Fence.wide n P Q a w:=by
 refine wpIn_rangeFunc ?_
 intro fn hfn
 have hval:∀(W:World) (μ':Nat->Nat) (H:List Blk) (a1:Act),Slots lo nt O W μ' (Xi H) a1 s.T->∃cv:List Value,a1.eval p=.func (.func gf) #[] cv.toArray/\All2 (RepP W (Live O μ' (Xi H))) cv caps:=by
  intro W μ' H a1 h1
  have hv:RepD W O μ' (Xi H) (a1.eval p) (.p (.fn gf caps)):=h1.eval p f _ hp hq
  generalize a1.eval p=v at hv
  cases hv with
  |p _ _ hp=>cases hp with
   |fn _ _ cv hl hc=>exact⟨cv,fnV_t hgf cv,All2.Vk hl fun i v d hv hd=>hc i d v hd hv⟩
 obtain⟨cv,hcv,_⟩:=hval w μ s.H a hsl
 obtain⟨rec,hrec⟩:∃rec:LoopState->Option Code->Loop,rec=fun st pe=>{state:=st,pending:=pe,fn,tmps:=a.tmps,params:=vars,assign:=ca,body:=cb,defers:=w.heap.size}:=⟨_,rfl⟩
 obtain⟨W1,hW1⟩:∃W1,(w.alloc (.deferred (some []))).alloc (.loop (rec .ready none))=W1:=⟨_,rfl⟩
 have hL1:W1.heap[w.heap.size+1]? =some (.loop (rec .ready none)):=by
  rw[<-hW1];have:=World.alloc_heap_new (w.alloc (.deferred (some []))) (.loop (rec .ready none));rwa[World.size_alloc]at this
 have hK1:W1.heap[w.heap.size]? =some (.deferred (some [])):=by
  rw[<-hW1];exact(Below.heap_alloc _ _ _ (by simp)).trans (World.alloc_heap_new w _)
 have hsz1:W1.heap.size=w.heap.size+2:=by rw[<-hW1];simp
 have hb1:∀k,k<w.heap.size->W1.heap[k]? =w.heap[k]? :=fun k hk=>by
  rw[<-hW1];exact(Below.heap_alloc _ _ _ (by simp;omega)).trans (Below.heap_alloc _ _ _ hk)
 obtain⟨gm,gi⟩:=UL (w':=W1) hI (by omega) hb1 (by rw[<-hW1];rfl) (by rw[<-hW1];rfl) (by rw[<-hW1];rfl)
 have hlive:∀b,Live O μ (Xi s.H) b->b<w.heap.size:=by
  rintro b (hb|⟨id,blk,h1,_,rfl⟩)
  ·exact hI.lt b hb
  ·exact hI.lt_size h1
 let a':Act:={a with defers:=mark0 w.heap.size::a.defers}
 have hslm:=hsl.mono gm
 have hsl1:Slots lo nt O W1 μ (Xi s.H) a' s.T:=by
  refine⟨⟨hslm.dfr.1,Zt.2 ⟨fun d hd e=> ?_,hslm.dfr.2.1⟩,fun d hd=> ?_⟩,hslm.sz,hslm.slot⟩
  ·obtain⟨D,rfl,_,h3,_⟩:=hsl.dfr.2.2 d hd
   have hlt:D<w.heap.size:=(ZW.1 h3).1
   simp only[mark0,Target.collected.injEq]at e
   omega
  ·rcases Zk.1 hd with rfl|hd
   ·exact⟨w.heap.size,rfl,hsl.dfr.1,hK1,fun hl=>by have:=hlive _ hl;omega⟩
   ·exact hslm.dfr.2.2 d hd
 have hdull:∀r:Loop,Dull (.loop r):=fun r=>⟨(fun _ _ _ h=>by cases h),(fun _ _ h=>by cases h)⟩
 refine⟨w.heap.size+1,[mark0 w.heap.size],W1,{target:=.fn (.func gf) cv.toArray,args:=#[.func (.yield (w.heap.size+1)) #[] #[]]},W1,gf,
  #[.func (.yield (w.heap.size+1)) #[] #[]]++cv.toArray,W1,?_,?_,fun _ _=>trivial,?_,fun h=>by simp[Fence.wide]at h,?_⟩
 ·rw[<-hW1,hrec];exact run_enterLoop_outer _ _ _ _ _
 ·simp only[resolve,hcv]
  simp[go_sem]
 ·have e1:∀(q:Array Value) (W:World),(callFunc gf q).run P W=.ok (.enter gf q) W:=hent
  simp[invoke,go_sem,e1]
 ·refine callsIn_wide.2 ((callsIn_wide (n:=0)).1 ?_)
  let R:=Uo (fun s=>Xp E K base pre s) (fun s=>Xp E K base body s)
  refine(hiter (w.heap.size+1) cv
   (fun i W=>∃H μ',VW s.T R vars.toList (xss.drop i) H=some (ex,s')/\HInv W O μ' (Xi H)/\Slots lo nt O W μ' (Xi H) a' s.T/\Mono O w μ (Xi s.H) W μ' (Xi H)/\W.heap[w.heap.size+1]? =some (.loop (rec .ready none))/\¬Live O μ' (Xi H) (w.heap.size+1))
   (fun W=>∃c μ',W.heap[w.heap.size+1]? =some (.loop (rec .done (some c)))/\HInv W O μ' (Xi s'.H)/\Slots lo nt O W μ' (Xi s'.H) a' s'.T/\Mono O w μ (Xi s.H) W μ' (Xi s'.H)/\((c=.ret/\ex=.ret)\/∃id,c=.exit id/\ex=.exit id))
   ?_ ?_ W1 ⟨s.H,μ,hr,gi,hsl1,gm,hL1,fun hl=>by have:=hlive _ hl;omega⟩).mono ?_
  ·rintro i W ⟨H,μ',_,_,h3,_⟩
   obtain⟨cv',hcv',hall⟩:=hval W μ' H a' h3
   have :a'.eval p=a.eval p:=by cases p<;>rfl
   rw[this,hcv]at hcv'
   simp only[Value.func.injEq,true_and]at hcv'
   have :cv=cv':=by simpa using hcv'
   exact⟨_,this▸hall⟩
  ·rintro i W xs vs ⟨H,μ',hrr,hI',hsl',hm',hl',hnl⟩ hxs hvals
   have hlt:w.heap.size+1<W.heap.size:=(ZW.1 hl').1
   have hdrop:xss.drop i=xs::xss.drop (i+1):=by
    obtain⟨h1,h2⟩:=Zb.1 hxs
    rw[Z1 h1,h2]
   rw[hdrop]at hrr
   simp only[VW]at hrr
   cases hset:Sk vars.toList xs s.T with
   |none=>simp[hset]at hrr
   |some T1=>
   simp only[hset]at hrr
   cases hb:R ⟨T1,H⟩with
   |none=>simp[hb]at hrr
   |some q=>
   obtain⟨e1,s1⟩:=q
   simp only[hb]at hrr
   have hb2:Uo (fun s=>Xp E K base pre s) (fun s=>Xp E K base body s) ⟨T1,H⟩=some (e1,s1):=hb
   unfold Uo at hb2
   split at hb2
   ·rename_i s2 hpre
    have hvl:vs.length=vars.size:=by
     rw[hvals.length,<-setTs_length _ _ _ _ hset];simp
    obtain⟨hz,hslot⟩:=setTs_slots (w:=W) (O:=O) (μ:=μ') (h:=Xi H) (nt:=nt) vars.toList xs s.T T1 a.tmps vs hset hvs (hvals.imp fun v x hvx=>hvx O μ' (Xi H)) hsl'.sz hsl'.slot
    rw[<-zip_foldl]at hz hslot
    have hy:=run_yield (P:=P) (args:=vs.toArray) hl' (by rw[hrec];simpa using hvl)
    rw[hrec]at hy
    refine⟨fn,_,ca,cb,hy,roundIn_of_wpIn hfn ?_⟩
    refine ihp (w.heap.size+1) 0 ca hca ⟨T1,H⟩ .normal s2 hpre _ W μ' hI' ⟨⟨Zr _,.nil,fun d hd=>by simp at hd⟩,hz,hslot⟩ _ fun a1 w1 μ1 g1 g2 g3=> ?_
    have hl1:w1.heap[w.heap.size+1]? =some (.loop (rec .ready none)):=(g3.keeps.keep _ hlt hnl).trans hl'
    have hnl1:¬Live O μ1 (Xi s2.H) (w.heap.size+1):=fun hh=>(g3.keeps.live _ hh).elim hnl (by omega)
    have hlt1:w.heap.size+1<w1.heap.size:=(ZW.1 hl1).1
    refine⟨_,run_beginRound hl1 (by rw[hrec]),?_⟩
    generalize hw2:w1.putObj (w.heap.size+1) (.loop {rec .ready none with state:=.busy})=w2
    have hl2:w2.heap[w.heap.size+1]? =some (.loop {rec .ready none with state:=.busy}):=by rw[<-hw2];exact World.putObj_heap_same hlt1
    have hI2:HInv w2 O μ1 (Xi s2.H):=by rw[<-hw2];exact g1.same (VJ hl1 (hdull _) (hdull _))
    have hs2:Slots 0 nt O w2 μ1 (Xi s2.H) a1 s2.T:=by rw[<-hw2];exact g2.same hl1 (hdull _) (fun _ h=>by cases h) (hdull _)
    have hsA:Slots lo nt O w2 μ1 (Xi s2.H) a' s.T:=by rw[<-hw2];exact(hsl'.mono g3).same hl1 (hdull _) (fun _ h=>by cases h) (hdull _)
    have hmn2:Mono O w μ (Xi s.H) w2 μ1 (Xi s2.H):=by rw[<-hw2];exact Ue hI (hm'.trans g3) (by omega) _
    refine ihb (w.heap.size+1) 0 cb hcb s2 e1 s1 hb2 a1 w2 μ1 hI2 hs2 _ fun a3 w3 μ3 k1 k2 k3=> ?_
    have hlt2:w.heap.size+1<w2.heap.size:=(ZW.1 hl2).1
    have hl3:w3.heap[w.heap.size+1]? =some (.loop {rec .ready none with state:=.busy}):=(k3.keeps.keep _ hlt2 hnl1).trans hl2
    have hnl3:¬Live O μ3 (Xi s1.H) (w.heap.size+1):=fun hh=>(k3.keeps.live _ hh).elim hnl1 (by omega)
    have hlt3:w.heap.size+1<w3.heap.size:=(ZW.1 hl3).1
    have fin:∀(jump:Option Code),(Instr.endRound (w.heap.size+1) jump).run P w3=.ok (.bool jump.isNone) (w3.putObj (w.heap.size+1) (.loop (rec (if jump.isNone then .ready else .done) jump)))/\
      (w3.putObj (w.heap.size+1) (.loop (rec (if jump.isNone then .ready else .done) jump))).heap[w.heap.size+1]? =some (.loop (rec (if jump.isNone then .ready else .done) jump))/\
      HInv (w3.putObj (w.heap.size+1) (.loop (rec (if jump.isNone then .ready else .done) jump))) O μ3 (Xi s1.H)/\
      Slots lo nt O (w3.putObj (w.heap.size+1) (.loop (rec (if jump.isNone then .ready else .done) jump))) μ3 (Xi s1.H) a' s.T/\
      Mono O w μ (Xi s.H) (w3.putObj (w.heap.size+1) (.loop (rec (if jump.isNone then .ready else .done) jump))) μ3 (Xi s1.H):=by
     intro jump
     refine⟨?_,World.putObj_heap_same hlt3,k1.same (VJ hl3 (hdull _) (hdull _)),(hsA.mono k3).same hl3 (hdull _) (fun _ h=>by cases h) (hdull _),Ue hI (hmn2.trans k3) (by omega) _⟩
     have:=run_endRound (P:=P) jump hl3
     rw[hrec]at this⊢
     exact this
    cases e1 with
    |normal=>
     obtain⟨f1,f2,f3,f4,f5⟩:=fin none
     exact⟨_,_,f1,.inl ⟨rfl,s1.H,μ3,hrr,f3,f4,f5,f2,hnl3⟩⟩
    |ret=>
     simp only[Za,Zl]at hrr
     obtain⟨rfl,rfl⟩:=hrr
     obtain⟨f1,f2,f3,f4,f5⟩:=fin (some .ret)
     exact⟨_,_,f1,.inr ⟨rfl,.ret,μ3,f2,f3,f4,f5,.inl ⟨rfl,rfl⟩⟩⟩
    |exit id=>
     simp only[Za,Zl]at hrr
     obtain⟨rfl,rfl⟩:=hrr
     obtain⟨f1,f2,f3,f4,f5⟩:=fin (some (.exit id))
     exact⟨_,_,f1,.inr ⟨rfl,.exit id,μ3,f2,f3,f4,f5,.inr ⟨id,rfl,rfl⟩⟩⟩
   ·simp at hb2
  ·rintro e W2 ⟨⟨v,rfl⟩,(⟨H,μ',hrr,hI',hsl',hm',hl',_⟩|⟨c,μ',hl',hI',hsl',hm',hc⟩)⟩
   ·rw[List.drop_length]at hrr
    simp only[VW,Za,Zl]at hrr
    obtain⟨rfl,rfl⟩:=hrr
    exact⟨none,_,by have:=run_endLoop (P:=P) hl' (by rw[hrec];simp);rw[hrec]at this;exact this,
     hk a' _ μ' (hI'.same (VJ hl' (hdull _) (hdull _))) (hsl'.same hl' (hdull _) (fun _ h=>by cases h) (hdull _)) (Ue hI hm' (by omega) _)⟩
   ·refine⟨some c,_,by have:=run_endLoop (P:=P) hl' (by rw[hrec];simp);rw[hrec]at this;exact this,?_⟩
    have:=hk a' _ μ' (hI'.same (VJ hl' (hdull _) (hdull {rec .done (some c)with state:=.exhausted}))) (hsl'.same hl' (hdull _) (fun _ h=>by cases h) (hdull _)) (Ue hI hm' (by omega) _)
    rw[hrec]at this
    rcases hc with⟨rfl,rfl⟩|⟨id,rfl,rfl⟩
    ·exact wpIn_ret this
    ·exact wpIn_exit this
theorem SE (E:Oracle)(hE:OracleOk P E)(hD:Rh P E)(K base nt:Nat):∀xc:XCode,CodeOk P E K base nt xc:=by
 intro xc
 induction xc with
 |skip=>
  intro O F n lo hF hfl c hc s ex s' hr a w μ hI hsl Q hk
  simp only[Xp,Za,Zl]at hr;obtain⟨rfl,rfl⟩:=hr
  have:=hk a w μ hI hsl (Mono.refl _ _ _ _)
  rcases Vq hc with rfl|⟨l,rfl⟩
  ·exact wpIn_skip this
  ·exact wpIn_label this
 |region d os=>
  intro O F n lo hF hfl c hc s ex s' hr a w μ hI hsl Q hk
  obtain⟨id,ops,os0,rfl,hm,hf,hf0⟩:=Vq hc
  cases d with
  |false=>
   have e0:=hf0 rfl
   subst e0
   simp only[Xp,evOps_bare]at hr
   cases he:Vi E base os0 s with
   |none=>simp[he]at hr
   |some s1=>
   simp only[he,Za,Zl]at hr;obtain⟨rfl,rfl⟩:=hr
   refine wpIn_region_list ?_
   have:=evOps_wp (O:=O) (Q:=Q) E hE hF n base ops.toList ops.toList os0 hm s s1 a w μ he hI hsl hk
   simpa using this
  |true=>
   obtain⟨hf1,rfl⟩:=hf rfl
   simp only[Xp]at hr
   cases he:Vz E base (X4 [] os0) s with
   |none=>simp[he]at hr
   |some s1=>
   simp only[he,Za,Zl]at hr;obtain⟨rfl,rfl⟩:=hr
   exact hD F n hF O lo base nt id ops os0 (X4 [] os0) [] hm hf1 (ZO _).symm rfl s s1 s1 he rfl a w μ hI hsl Q hk
 |regionS pre suf=>
  intro O F n lo hF hfl c hc s ex s' hr a w μ hI hsl Q hk
  simp only[XCode.erase]at hc
  cases hsu:Sh pre.length suf with
  |false=>rw[hsu,cond_false]at hc;exact(Vq hc).elim
  |true=>
  rw[hsu,cond_true]at hc
  obtain⟨id,ops,os0,rfl,hm,hf,_⟩:=Vq hc
  obtain⟨hf1,hf2⟩:=hf rfl
  simp only[Xp,Re]at hr
  cases he:Vz E base pre s with
  |none=>simp[he]at hr
  |some s1=>
  simp only[he]at hr
  cases he2:Vi E base suf s1 with
  |none=>simp[he2]at hr
  |some s2=>
  simp only[he2,Za,Zl]at hr;obtain⟨rfl,rfl⟩:=hr
  exact hD F n hF O lo base nt id ops os0 pre suf hm hf1 hf2.symm hsu s s1 s2 he he2 a w μ hI hsl Q hk
 |seq xa xb iha ihb=>
  intro O F n lo hF hfl c hc s ex s' hr a w μ hI hsl Q hk
  obtain⟨ca,cb,rfl,hca,hcb⟩:=Vq hc
  have hfa:F=Fence.wide\/xa.flat=true:=hfl.imp (fun h=>h) fun h=>by simp only[XCode.flat,Zo]at h;exact h.1
  have hfb:F=Fence.wide\/xb.flat=true:=hfl.imp (fun h=>h) fun h=>by simp only[XCode.flat,Zo]at h;exact h.2
  simp only[Xp]at hr
  cases he:Xp E K base xa s with
  |none=>simp[he]at hr
  |some q=>
  obtain⟨e1,s1⟩:=q
  refine wpIn_seq ?_
  cases e1 with
  |normal=>
   simp only[he]at hr
   exact iha O F n lo hF hfa ca hca s .normal s1 he a w μ hI hsl _ fun a' w' μ' h1 h2 h3=>ihb O F n lo hF hfb cb hcb s1 ex s' hr a' w' μ' h1 h2 Q fun a2 w2 μ2 g1 g2 g3=>hk a2 w2 μ2 g1 g2 (h3.trans g3)
  |exit id=>
   simp only[he,Za,Zl]at hr;obtain⟨rfl,rfl⟩:=hr
   exact iha O F n lo hF hfa ca hca s (.exit id) s1 he a w μ hI hsl _ fun a' w' μ' h1 h2 h3=>hk a' w' μ' h1 h2 h3
  |ret=>
   simp only[he,Za,Zl]at hr;obtain⟨rfl,rfl⟩:=hr
   exact iha O F n lo hF hfa ca hca s .ret s1 he a w μ hI hsl _ fun a' w' μ' h1 h2 h3=>hk a' w' μ' h1 h2 h3
 |cond q xa xb iha ihb=>
  intro O F n lo hF hfl c hc s ex s' hr a w μ hI hsl Q hk
  obtain⟨p,ca,cb,rfl,hp,hca,hcb⟩:=Vq hc
  have hfa:F=Fence.wide\/xa.flat=true:=hfl.imp (fun h=>h) fun h=>by simp only[XCode.flat,Zo]at h;exact h.1
  have hfb:F=Fence.wide\/xb.flat=true:=hfl.imp (fun h=>h) fun h=>by simp only[XCode.flat,Zo]at h;exact h.2
  simp only[Xp]at hr
  split at hr
  ·rename_i hq
   exact wpIn_cond_true (hsl.eval p q _ hp hq).Tc (iha O F n lo hF hfa ca hca s ex s' hr a w μ hI hsl Q hk)
  ·rename_i hq
   exact wpIn_cond_false (hsl.eval p q _ hp hq).Tc (ihb O F n lo hF hfb cb hcb s ex s' hr a w μ hI hsl Q hk)
  ·simp at hr
 |block id xa iha=>
  intro O F n lo hF hfl c hc s ex s' hr a w μ hI hsl Q hk
  obtain⟨ca,rfl,hca⟩:=Vq hc
  have hfa:F=Fence.wide\/xa.flat=true:=hfl.imp (fun h=>h) fun h=>by simpa only[XCode.flat]using h
  simp only[Xp]at hr
  cases he:Xp E K base xa s with
  |none=>simp[he]at hr
  |some q=>
  obtain⟨e1,s1⟩:=q
  refine wpIn_block ?_
  cases e1 with
  |normal=>
   simp only[he,Za,Zl]at hr;obtain⟨rfl,rfl⟩:=hr
   exact iha O F n lo hF hfa ca hca s .normal s1 he a w μ hI hsl _ fun a' w' μ' h1 h2 h3=>hk a' w' μ' h1 h2 h3
  |ret=>
   simp only[he,Za,Zl]at hr;obtain⟨rfl,rfl⟩:=hr
   exact iha O F n lo hF hfa ca hca s .ret s1 he a w μ hI hsl _ fun a' w' μ' h1 h2 h3=>hk a' w' μ' h1 h2 h3
  |exit j=>
   simp only[he]at hr
   refine iha O F n lo hF hfa ca hca s (.exit j) s1 he a w μ hI hsl _ fun a' w' μ' h1 h2 h3=> ?_
   show(if j=id then Q .normal a' w' else Q (.exit j) a' w')
   by_cases e:j=id
   ·subst e
    simp only[beq_self_eq_true,cond_true,Za,Zl]at hr;obtain⟨rfl,rfl⟩:=hr
    rw[if_pos rfl];exact hk a' w' μ' h1 h2 h3
   ·have :(j==id)=false:=by simpa using e
    simp only[this,cond_false,Za,Zl]at hr;obtain⟨rfl,rfl⟩:=hr
    rw[if_neg e];exact hk a' w' μ' h1 h2 h3
 |loop xa iha=>
  intro O F n lo hF hfl c hc s ex s' hr a w μ hI hsl Q hk
  obtain⟨ca,rfl,hca⟩:=Vq hc
  have hfa:F=Fence.wide\/xa.flat=true:=hfl.imp (fun h=>h) fun h=>by simpa only[XCode.flat]using h
  simp only[Xp]at hr
  refine wpIn_loop_rounds K ?_
  have gen:∀(k:Nat) (s:St) (a:Act) (w:World) (μ:Nat->Nat),loopN (fun s=>Xp E K base xa s) k s=some (ex,s')->HInv w O μ (Xi s.H)->Slots lo nt O w μ (Xi s.H) a s.T->
    (∀a' w' μ',HInv w' O μ' (Xi s'.H)->Slots lo nt O w' μ' (Xi s'.H) a' s'.T->Mono O w μ (Xi s.H) w' μ' (Xi s'.H)->Q (exOf ex) a' w')->Code.roundsIn F n P ca Q k a w:=by
   intro k
   induction k with
   |zero=>intro s a w μ hr;simp[loopN]at hr
   |succ k ih=>
    intro s a w μ hr hI hsl hk
    simp only[loopN]at hr
    cases he:Xp E K base xa s with
    |none=>simp[he]at hr
    |some q=>
    obtain⟨e1,s1⟩:=q
    show ca.wpIn F n P (Exit.then (Code.roundsIn F n P ca Q k) Q) a w
    cases e1 with
    |normal=>
     simp only[he]at hr
     exact iha O F n lo hF hfa ca hca s .normal s1 he a w μ hI hsl _ fun a' w' μ' h1 h2 h3=>ih s1 a' w' μ' hr h1 h2 fun a2 w2 μ2 g1 g2 g3=>hk a2 w2 μ2 g1 g2 (h3.trans g3)
    |exit id=>
     simp only[he,Za,Zl]at hr;obtain⟨rfl,rfl⟩:=hr
     exact iha O F n lo hF hfa ca hca s (.exit id) s1 he a w μ hI hsl _ fun a' w' μ' h1 h2 h3=>hk a' w' μ' h1 h2 h3
    |ret=>
     simp only[he,Za,Zl]at hr;obtain⟨rfl,rfl⟩:=hr
     exact iha O F n lo hF hfa ca hca s .ret s1 he a w μ hI hsl _ fun a' w' μ' h1 h2 h3=>hk a' w' μ' h1 h2 h3
  exact gen K s a w μ hr hI hsl hk
 |keep ks xa iha=>
  intro O F n lo hF hfl c hc s ex s' hr a w μ hI hsl Q hk
  simp only[Xp,TG]at hr
  exact iha O F n lo hF hfl c hc ⟨WR s.T ks,s.H⟩ ex s' hr a w μ hI ⟨hsl.dfr,hsl.sz,fun t d hd=>hsl.slot t d (TH _ _ _ _ hd)⟩ Q hk
 |scope xa iha=>
  intro O F n lo hF hfl c hc s ex s' hr a w μ hI hsl Q hk
  obtain⟨ca,rfl,hca⟩:=Vq hc
  simp only[Xp]at hr
  obtain rfl:F=Fence.wide:=hfl.resolve_right (by simp[XCode.flat])
  refine wpIn_wide.2 (wp_scope_straight ((wpIn_wide (n:=n)).1 (iha O Fence.wide n lo hF (.inl rfl) ca hca s ex s' hr a w μ hI hsl _ fun a' w' μ' h1 h2 h3=> ?_)))
  have:=hk a' w' μ' h1 h2 h3
  cases ex<;>exact this
 |exit id=>
  intro O F n lo hF hfl c hc s ex s' hr a w μ hI hsl Q hk
  have hce:c=.exit id:=Vq hc
  subst hce
  simp only[Xp,Za,Zl]at hr;obtain⟨rfl,rfl⟩:=hr
  exact wpIn_exit (hk a w μ hI hsl (Mono.refl _ _ _ _))
 |ret=>
  intro O F n lo hF hfl c hc s ex s' hr a w μ hI hsl Q hk
  have hce:c=.ret:=Vq hc
  subst hce
  simp only[Xp,Za,Zl]at hr;obtain⟨rfl,rfl⟩:=hr
  exact wpIn_ret (hk a w μ hI hsl (Mono.refl _ _ _ _))
 |rfun f vars pre body ihp ihb=>
  intro O F n lo hF hfl c hc s ex s' hr a w μ hI hsl Q hk
  obtain rfl:F=Fence.wide:=hfl.resolve_right (by simp[XCode.flat])
  obtain⟨p,vs,ca,cb,rfl,rfl,hvs,hp,hca,hcb⟩:=Vq hc
  simp only[Xp]at hr
  split at hr
  ·rename_i gf caps hq
   cases hit:E.iter gf caps with
   |none=>simp[hit]at hr
   |some xss=>
   simp only[hit]at hr
   obtain⟨hflat,hr⟩:=XA hr
   rw[Zo,Zo]at hflat
   exact rfun_ok (fun l n=>ihp O (Fence.wide.inRound l) n 0 (.inr ⟨l,rfl⟩) (.inr hflat.1.1)) (fun l n=>ihb O (Fence.wide.inRound l) n 0 (.inr ⟨l,rfl⟩) (.inr hflat.1.2)) p vs ca cb hvs f hp hca hcb gf caps xss hflat.2 (hE.iter gf caps xss hit).1 (hE.iter gf caps xss hit).2 s ex s' hq hr n lo a w μ hI hsl Q hk
  ·simp at hr
end
end Go.Ev
