/- Functions: from the interpreter's run of a body to a contract. -/
import Derived.Test.YtefpgecinlekpaaGreatEvCode
namespace Go.Ev
open Go.RowKit
section
variable {lo:Nat}{P:Program}{O:BS}{w:World}{μ:Nat->Nat}{h:HF}
def Vr:List DV->Nat->List (Nat×DV)
 |[],_=>[]
 |v::vs,i=>(i,v)::Vr vs (i+1)
theorem argsK_eq {β:Type}:∀(vs:List DV) (i:Nat) (k:List (Nat×DV)->β),argsK vs i k=k (Vr vs i)
 |[],_,_=>rfl
 |v::vs,i,k=>by simp only[argsK,Vr];rw[argsK_eq vs]
theorem getT_argsT:∀(vs:List DV) (i t:Nat) (d:DV),Xf (Vr vs i) t=some d->i<=t/\vs[t-i]? =some d
 |[],_,_,_,h=>by simp[Vr,Xf]at h
 |v::vs,i,t,d,h=>by
  simp only[Vr,Vv]at h
  by_cases e:i=t
  ·subst e;rw[if_pos rfl]at h;cases h;exact⟨Zg _,by simp⟩
  ·rw[if_neg e]at h
   obtain⟨h1,h2⟩:=getT_argsT vs (i+1) t d h
   refine⟨by omega,?_⟩
   rw[show t-i=(t-(i+1))+1 by omega];simpa using h2
theorem slots_enter {nt:Nat}{vs:List Value}{args:List DV}(hlo:lo<=w.heap.size)(hle:args.length<=nt)(ha:All2 (Xo w O μ h) vs args):
  Slots lo nt O w μ h {tmps:=vs.toArray++Array.replicate (nt-vs.toArray.size) undef,defers:=[]} (Vr args 0):=by
 have hl:=ha.length
 refine⟨⟨hlo,.nil,fun d hd=>by simp at hd⟩,by simp;omega,fun t d hd=> ?_⟩
 obtain⟨_,h2⟩:=getT_argsT args 0 t d hd
 simp only[Nat.sub_zero]at h2
 obtain⟨v,hv,hr⟩:=ha.get t d h2
 have hlt:t<vs.length:=(Zb.1 hv).1
 have :({tmps:=vs.toArray++Array.replicate (nt-vs.toArray.size) undef,defers:=[]}:Act).tmps.getD t undef=v:=by
  rw[ZF,Array.getElem?_append_left (by simpa using hlt)]
  simp[hv]
 rw[this];exact hr
theorem res_one {nt:Nat}{a:Act}{s:St}(hI:HInv w O μ (Xi s.H))(hsl:Slots lo nt O w μ (Xi s.H) a s.T)(rv:ResultVar)(x:Nat×Option (Bool×Nat))(hx:T4 P rv=some x)(d:DV)(hd:X3 s x=some d):
  ∃v,(match rv with
   | .tmp t=>(pure (a.tmps.getD t undef):Sem Value)
   | .cell q t=>do loadVar t (<-asAddr (a.tmps.getD q undef))).run P w=.ok v w/\Xo w O μ (Xi s.H) v d:=by
 cases rv with
 |tmp t=>
  simp only[T4,Za]at hx;subst hx
  exact⟨_,by simp,hsl.slot t d hd⟩
 |cell q t=>
  simp only[T4]at hx
  split at hx<;>simp only[Za,reduceCtorEq]at hx
  rename_i ag sz hag hsz
  subst hx
  simp only[X3]at hd
  split at hd
  ·rename_i id ver i off hq
   split at hd
   ·rename_i b hb
    obtain⟨hcond,hd⟩:=XA hd
    rw[Zo]at hcond
    have hver:=Zj hcond.1
    have hmp:b.mp=false:=by simpa using hcond.2
    split at hd
    ·rename_i c hc
     obtain⟨ti,hti,rfl⟩:=Wa hsz
     obtain⟨b2,g,o,e,hb2,_,hsm⟩:=(hsl.slot q _ hq).Ra
     have hb':Xi s.H id=some b:=hb
     rw[hb']at hb2;cases hb2
     obtain⟨rfl,rfl⟩:=hsm hver.symm
     have hhead:Uf ag ti.size (c.drop off)=some d:=by
      unfold Uf
      cases ag with
      |true=>
       simp only[cond_true]at hd⊢
       obtain⟨hle,rfl⟩:=Xk hd
       have:=Wb hle
       have hb3:Nat.ble ti.size (c.drop off).length=true:=by rw[Nat.ble_eq];simp;omega
       rw[hb3];rfl
      |false=>simpa using hd
     obtain⟨v,hrun,hrep⟩:=load_head (P:=P) (w:=w) (O:=O) (μ:=μ) (h:=Xi s.H) t ti ag hag hti (μ id) (i*b.sz+off) (c.drop off) (chunk_cells hI hb' hmp hc off) d hhead
     refine⟨v,?_,hrep⟩
     show(do loadVar t (<-asAddr (a.tmps.getD q undef)):Sem Value).run P w=_
     rw[e]
     simp only[asAddr,Sem.run_bind,Sem.run_pure,Result.andThen_ok]
     simp only[Instr.loadAt,Instr.sureAddr,Sem.run_bind,Sem.run_pure,Result.andThen_ok]at hrun
     exact hrun
    ·simp at hd
   ·simp at hd
  ·simp at hd
theorem res_all {nt:Nat}{a:Act}{s:St}(hI:HInv w O μ (Xi s.H))(hsl:Slots lo nt O w μ (Xi s.H) a s.T):∀(rvs:List ResultVar) (xs:List (Nat×Option (Bool×Nat))) (ds:List DV),Xl (T4 P) rvs=some xs->Xl (X3 s) xs=some ds->
  ∃vs:List Value,(List.mapM (fun rv=>match rv with
   |ResultVar.tmp t=>(pure (a.tmps.getD t undef):Sem Value)
   |ResultVar.cell q t=>do loadVar t (<-asAddr (a.tmps.getD q undef))) rvs).run P w=.ok vs w/\All2 (Xo w O μ (Xi s.H)) vs ds
 |[],xs,ds,h1,h2=>by rw[map0 h1]at h2;rw[map0 h2];exact⟨[],by simp,.nil⟩
 |rv::rvs,xs,ds,h1,h2=>by
  obtain⟨x,xs',hx,hxs,rfl⟩:=map_cons h1
  obtain⟨d,ds',hd,hds,rfl⟩:=map_cons h2
  obtain⟨v,hv,hr⟩:=res_one hI hsl rv x hx d hd
  obtain⟨vs,hvs,hrs⟩:=res_all hI hsl rvs xs' ds' hxs hds
  refine⟨v::vs,?_,.cons hr hrs⟩
  rw[List.mapM_cons,Sem.run_bind,hv]
  simp only[Result.andThen_ok,Sem.run_bind,hvs,Sem.run_pure]
def packV:List Value->Value
 |[v]=>v
 |vs=>.tuple vs.toArray
theorem results_run {nt:Nat}{a:Act}{s:St}(fn:Func)(hI:HInv w O μ (Xi s.H))(hsl:Slots lo nt O w μ (Xi s.H) a s.T)(xs:List (Nat×Option (Bool×Nat)))(ds:List DV)(h1:Xl (T4 P) fn.results.toList=some xs)(h2:Xl (X3 s) xs=some ds):
  ∃vs:List Value,(results fn a.tmps).run P w=.ok (packV vs) w/\All2 (Xo w O μ (Xi s.H)) vs ds:=by
 obtain⟨vs,hvs,hrs⟩:=res_all hI hsl _ _ _ h1 h2
 refine⟨vs,?_,hrs⟩
 unfold results
 rw[Sem.run_bind,Array.mapM_eq_mapM_toList,Sem.run_map]
 refine Eq.trans (congrArg (fun r:Result (List Value)=>(r.andThen fun a w'=>Result.ok a.toArray w').andThen fun(a:Array Value) w'=>Sem.run P (pure (if h:a.size=1 then a[0]else Value.tuple a)) w') hvs) ?_
 match vs with
 |[]=>rfl
 |[v]=>rfl
 |v::u::r=>rfl
structure FunOk (P:Program)(f:Nat)(xf:XFunc):Prop where
 ok : ∃ fn c, P.funcs[f]? = some fn /\ fn.body = some c /\ (fn.name == "runtime.NumGoroutine") = false /\ fn.ntmps = xf.ntmps /\ Xz P fn.ntmps c = some xf.body.erase /\ Xl (T4 P) fn.results.toList = some xf.results
theorem S8 {nt:Nat}{W0:World}{μ0':Nat->Nat}{hh0:HF}{fn:Func}{s:St}(hI0:HInv W0 O μ0' hh0)(xs:List (Nat×Option (Bool×Nat)))(rs:List DV)(h1:Xl (T4 P) fn.results.toList=some xs)(h2:Xl (X3 s) xs=some rs)(R:Ending->World->Prop)(tmps:Array Value)
  (hk:∀us w',HInv w' O μ (Xi s.H)->All2 (Xo w' O μ (Xi s.H)) us rs->Mono O W0 μ0' hh0 w' μ (Xi s.H)->R (.returned (packV us)) w'):∀(ds:List Deferred) (w:World),HInv w O μ (Xi s.H)->Slots W0.heap.size nt O w μ (Xi s.H) {tmps:=tmps,defers:=ds} s.T->Mono O W0 μ0' hh0 w μ (Xi s.H)->
   LeavesInM Fence.wide 0 P fn tmps R ds .returning w
 |[],w,hI,hsl,hm=>by
  obtain⟨us,hus,hrs⟩:=results_run (P:=P) fn hI hsl _ _ h1 h2
  exact⟨_,hus,hk us w hI hrs hm⟩
 |d::ds,w,hI,hsl,hm=>by
  obtain⟨D,hd,hlo,hD,hnl⟩:=hsl.dfr.2.2 d (Zh ..)
  have hpw:=Zt.1 hsl.dfr.2.1
  have hdull:Dull (.deferred (some [])):=⟨(fun _ _ _ h=>by cases h),(fun _ _ h=>by cases h)⟩
  have sd:=VJ hD hdull (o':=.deferred none) ⟨(fun _ _ _ h=>by cases h),(fun _ _ h=>by cases h)⟩
  refine⟨by simp,.inl ⟨D,_,by rw[hd];rfl,run_takeDeferred hD,S8 (nt:=nt) hI0 xs rs h1 h2 R tmps hk ds _ (hI.same sd) ?_ (Ue hI0 hm hlo _)⟩⟩
  refine⟨⟨ZC hsl.dfr.1 sd.size,hpw.2,fun e he=> ?_⟩,hsl.sz,fun t x ht=>(hsl.slot t x ht).same sd⟩
  obtain⟨D',g1,g2,g3,g4⟩:=hsl.dfr.2.2 e (Zc _ he)
  refine⟨D',g1,g2,?_,g4⟩
  have hne:D'≠D:=fun eq=>hpw.1 e he (by rw[hd,g1,eq])
  rw[World.putObj_heap_other hne];exact g3
theorem body_calls (E:Oracle)(hE:OracleOk P E)(hD:Rh P E)(K:Nat){f:Nat}{xf:XFunc}(hf:FunOk P f xf)(args:List DV)(H:List Blk)(rs:List DV)(s:St)(hr:UN E K xf args H=some (rs,s))
  (vs:List Value) (hI:HInv w O μ (Xi H)) (ha:All2 (Xo w O μ (Xi H)) vs args) (R:Ending->World->Prop)
  (hk:∀us w' μ',HInv w' O μ' (Xi s.H)->All2 (Xo w' O μ' (Xi s.H)) us rs->Mono O w μ (Xi H) w' μ' (Xi s.H)->R (.returned (packV us)) w'):Calls P f vs.toArray w R:=by
 obtain⟨fn,c,hfn,hb,_,hnt,hcomp,hres⟩:=hf.ok
 unfold UN at hr
 rw[argsK_eq]at hr
 cases hle:Nat.ble args.length xf.ntmps with
 |false=>rw[hle]at hr;simp at hr
 |true=>
 rw[hle,cond_true]at hr
 have hle:=Wb hle
 refine(callsIn_wide (n:=0)).1 (callsIn_of_wp_marks hfn hb trivial ?_)
 have hsl:Slots w.heap.size fn.ntmps O w μ (Xi H) {tmps:=vs.toArray++Array.replicate (fn.ntmps-vs.toArray.size) undef,defers:=[]} (Vr args 0):=slots_enter (Zg _) (by rw[hnt];exact hle) ha
 cases hev:Xp E K 0 xf.body ⟨Vr args 0,H⟩with
 |none=>simp[hev]at hr
 |some q=>
 obtain⟨ex,s1⟩:=q
 have fin:Xl (X3 s1) xf.results=some rs->s1=s->(∀a' w',LeavesInM Fence.wide 0 P fn a'.tmps R a'.defers .returning w'->bodyPostM Fence.wide 0 P fn R (exOf ex) a' w')->c.wpIn Fence.wide 0 P (bodyPostM Fence.wide 0 P fn R) {tmps:=vs.toArray++Array.replicate (fn.ntmps-vs.toArray.size) undef,defers:=[]} w:=by
  intro hm hs hbp
  subst hs
  refine SE E hE hD K 0 fn.ntmps xf.body O Fence.wide 0 w.heap.size (.inl rfl) (.inl rfl) c hcomp ⟨Vr args 0,H⟩ ex s1 hev _ w μ hI hsl _ fun a' w' μ' h1 h2 h3=>hbp a' w' ?_
  exact S8 (nt:=fn.ntmps) hI xf.results rs hres hm R a'.tmps (fun us w2 g1 g2 g3=>hk us w2 μ' g1 g2 g3) a'.defers w' h1 h2 h3
 cases ex with
 |exit id=>simp[hev]at hr
 |normal=>
  simp only[hev]at hr
  cases hm:Xl (X3 s1) xf.results with
  |none=>simp[hm]at hr
  |some rs'=>
   simp only[hm,Za,Zl]at hr;obtain⟨rfl,rfl⟩:=hr
   exact fin hm rfl fun a' w' h=>h
 |ret=>
  simp only[hev]at hr
  cases hm:Xl (X3 s1) xf.results with
  |none=>simp[hm]at hr
  |some rs'=>
   simp only[hm,Za,Zl]at hr;obtain⟨rfl,rfl⟩:=hr
   exact fin hm rfl fun a' w' h=>h
theorem FunOk.ent {f:Nat}{xf:XFunc}(hf:FunOk P f xf):Ent P f:=by
 obtain⟨fn,c,hfn,hb,hn,_⟩:=hf.ok
 exact ent_of hfn hn hb
theorem rep1_of_inj {L:BS}{v:Value}{p:PV}(hp:∀vs,p≠.tup vs)(r:Xo w L μ0 h0 v (inj p)):WS w L μ0 h0 v (inj1 p):=by
 cases p with
 |one l=>exact r
 |agg cs=>exact r
 |tup vs=>exact absurd rfl (hp vs)
theorem freezeV1_notup {d:DV}{p:PV}(hf:Xw h d=some p):∀vs,p≠.tup vs:=by
 intro vs e
 subst e
 cases d with
 |one l=>simp only[Xw]at hf;split at hf<;>simp at hf
 |agg cs=>simp only[Xw]at hf;split at hf<;>simp at hf
 |tup ds=>simp[Xw]at hf
theorem pack_rep (hI:HInv w O μ h)(L:BS)(hL:∀b,L b->Live O μ h b)(hno:∀id b,h id=some b->¬L (μ id))(us:List Value)(rs:List DV)(ps:List PV)(ha:All2 (Xo w O μ h) us rs)(hm:Xl (Xw h) rs=some ps):
  Xo w L μ0 h0 (packV us) (inj (packP ps)):=by
 obtain⟨hlen,hget⟩:=VO hm
 have each:∀(i:Nat) (u:Value) (p:PV),us[i]? =some u->ps[i]? =some p->Xo w L μ0 h0 u (inj p)/\∀vs,p≠.tup vs:=by
  intro i u p hu hp
  obtain⟨d,hd,hfd⟩:=hget i p hp
  obtain⟨u',hu',hr⟩:=ha.get i d hd
  rw[hu]at hu';cases hu'
  refine⟨freezeV1_rep hI L hL d p u hr hfd fun id hid=> ?_,freezeV1_notup hfd⟩
  obtain⟨b,hb⟩:=idsV_some d id hid
  exact hno id b hb
 have hul:us.length=ps.length:=by rw[ha.length,hlen]
 have tupcase:Xo w L μ0 h0 (.tuple us.toArray) (inj (.tup ps)):=by
  refine⟨us,rfl,All2.Vk (by simpa using hul) fun i u y hu hy=> ?_⟩
  rw[Zv]at hy
  cases hp:ps[i]? with
  |none=>simp[hp]at hy
  |some p=>
   simp only[hp,ZS,Za]at hy;subst hy
   obtain⟨h1,h2⟩:=each i u p hu hp
   exact rep1_of_inj h2 h1
 match us,ps,hul with
 |[],[],_=>exact tupcase
 |[u],[p],_=>exact(each 0 u p rfl rfl).1
 |u::u2::ur,p::p2::pr,_=>exact tupcase
theorem HFof_nil:Xi []=h0:=by funext x;simp[Xi,h0]
theorem pureF_CC (E:Oracle)(hE:OracleOk P E)(hD:Rh P E)(K:Nat){f:Nat}{xf:XFunc}(hf:FunOk P f xf)(ps:List PV)(r:PV)(hr:Ux E K xf ps=some r):CC P f ps r/\Ent P f:=by
 refine⟨fun w L vs hlt hargs=> ?_,hf.ent⟩
 unfold Ux at hr
 cases hb:UN E K xf (ps.map inj) []with
 |none=>simp[hb]at hr
 |some q=>
 obtain⟨rs,s⟩:=q
 simp only[hb]at hr
 cases hm:Xl (Xw (Xi s.H)) rs with
 |none=>simp[hm]at hr
 |some qs=>
 simp only[hm,Za]at hr;subst hr
 have hI0:HInv w L μ0 (Xi []):=by
  rw[HFof_nil]
  exact⟨fun id b hb=>by simp[h0]at hb,fun id id' b b' hb=>by simp[h0]at hb,fun id b hb=>by simp[h0]at hb,hlt⟩
 have hargs':All2 (Xo w L μ0 (Xi [])) vs (ps.map inj):=by
  rw[HFof_nil]
  refine All2.Vk (by simpa using hargs.length) fun i v y hv hy=> ?_
  rw[Zv]at hy
  cases hp:ps[i]? with
  |none=>simp[hp]at hy
  |some p=>
   simp only[hp,ZS,Za]at hy;subst hy
   obtain⟨v',hv',hr⟩:=hargs.get i p hp
   rw[hv]at hv';cases hv';exact hr
 refine body_calls (O:=L) E hE hD K hf (ps.map inj) [] rs s hb vs hI0 hargs' _ fun us w' μ' h1 h2 h3=>⟨_,rfl,pack_rep h1 L (fun b hb=>.inl hb) (fun id b hb=>h1.disj id b hb) us rs qs h2 hm,?_⟩
 refine⟨h3.os,h3.tape,h3.output,h3.keeps.size,fun k hk=> ?_⟩
 by_cases hLk:L k
 ·exact h3.okeep k hLk
 ·refine h3.keeps.keep k hk fun hl=> ?_
  rw[HFof_nil,TV]at hl;exact hLk hl
theorem heapF_CH (E:Oracle)(hE:OracleOk P E)(hD:Rh P E)(K:Nat){f:Nat}{xf:XFunc}(hf:FunOk P f xf)(args:List DV)(H:List Blk)(d:DV)(H':List Blk)(hr:VD E K xf args H=some (d,H')):CH P f args H d H'/\Ent P f:=by
 refine⟨fun w O μ vs hI hargs=> ?_,hf.ent⟩
 unfold VD at hr
 cases hb:UN E K xf args H with
 |none=>simp[hb]at hr
 |some q=>
 obtain⟨rs,s⟩:=q
 simp only[hb]at hr
 obtain⟨hpl,heq⟩:=Xk hr
 simp only[Zl]at heq;obtain⟨rfl,rfl⟩:=heq
 refine body_calls (O:=O) E hE hD K hf args H rs s hb vs hI hargs _ fun us w' μ' h1 h2 h3=>⟨_,μ',rfl,?_,h1,h3⟩
 have tupcase:Xo w' O μ' (Xi s.H) (.tuple us.toArray) (.tup rs):=by
  refine⟨us,rfl,All2.Vk h2.length fun i u y hu hy=> ?_⟩
  obtain⟨u',hu',hr⟩:=h2.get i y hy
  rw[hu]at hu';cases hu'
  have:=ZP.1 hpl y (Zu hy)
  cases y with
  |one l=>exact hr
  |agg cs=>exact hr
  |tup ds=>simp[DV.plain]at this
 match us,rs,h2 with
 |[],[],_=>exact tupcase
 |[u],[r],h2=>cases h2 with |cons h _=>exact h
 |u::u2::ur,r::r2::rr,_=>exact tupcase
 |[],_::_,h2=>cases h2
 |_::_,[],h2=>cases h2
 |[_],_::_::_,h2=>cases h2 with |cons _ h=>cases h
 |_::_::_,[_],h2=>cases h2 with |cons _ h=>cases h
end
end Go.Ev
