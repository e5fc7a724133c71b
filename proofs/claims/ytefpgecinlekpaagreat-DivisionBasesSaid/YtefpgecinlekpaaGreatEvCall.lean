/- Freezing: a reference into the call's own blocks as a pure value. -/
import Derived.Test.YtefpgecinlekpaaGreatEvHeap
namespace Go.Ev
section
variable {P:Program}{O:BS}{w:World}{μ:Nat->Nat}{h:HF}{n:Nat}
theorem RepP.anti {L L':BS}(hs:∀b,L' b->L b){v:Value}{l:PL}(r:RepP w L v l):RepP w L' v l:=by
 induction r with
 |bool b=>exact .bool b
 |int a n=>exact .int a n
 |nilS=>exact .nilS
 |str s=>exact .str s
 |junk v h=>exact .junk v h
 |fn f caps cv hl hc ih=>exact .fn f caps cv hl ih
 |ref b off cs vals ho hc hr ih=>exact .ref b off cs vals (fun j d hj hb=>ho j d hj (hs _ hb)) hc ih
 |lst b off sz cap es vals ho hcap hsz hc hr hsp ih=>exact .lst b off sz cap es vals (fun i c j d hi hj hb=>ho i c j d hi hj (hs _ hb)) hcap hsz hc ih hsp
theorem VO {α β:Type}{f:α->Option β}{xs:List α}{ys:List β}(hm:Xl f xs=some ys):xs.length=ys.length/\∀(i:Nat) (y:β),ys[i]? =some y->∃x,xs[i]? =some x/\f x=some y:=by
 have ha:=Sw (R:=fun x y=>f x=some y) (fun _ _ e=>e) hm
 exact⟨ha.length,fun i y hy=>ha.get i y hy⟩
def h0:HF:=fun _=>none
def μ0:Nat->Nat:=fun _=>0
theorem TV (L:BS):Live L μ0 h0=L:=by
 funext b;simp[Live,h0]
theorem freezeL_rep (hI:HInv w O μ h)(L:BS)(hL:∀b,L b->Live O μ h b):∀(k:Nat) (l:DL) (pl:PL) (v:Value),RepD w O μ h v l->Xn k h l=some pl->(∀id∈Wt k h l,¬L (μ id))->RepP w L v pl:=by
 intro k
 induction k with
 |zero=>
  intro l pl v hr hf _
  cases hr with
  |p v l hp=>simp only[Xn,Za]at hf;subst hf;exact hp.anti hL
  |own=>simp[Xn]at hf
  |ptr=>simp[Xn]at hf
  |fn=>simp[Xn]at hf
  |mp=>simp[Xn]at hf
 |succ k ih=>
  intro l pl v hr hf hids
  cases hr with
  |p v l hp=>simp only[Xn,Za]at hf;subst hf;exact hp.anti hL
  |mp=>simp[Xn]at hf
  |fn f caps cv hl hc=>
   simp only[Xn]at hf
   cases hm:Xl (Xn k h) caps with
   |none=>simp[hm]at hf
   |some cs=>
   simp only[hm,Za]at hf;subst hf
   obtain⟨hlen,hget⟩:=VO hm
   refine .fn f cs cv (by omega) fun i d v hd hv=> ?_
   obtain⟨x,hx,hfx⟩:=hget i d hd
   refine ih x d v (hc i x v hx hv) hfx fun id hid=>hids id ?_
   simp only[Wt]
   exact Ya.2 ⟨x,Zu hx,hid⟩
  |own id ver off len b g o cap hb hv hl hs=>
   simp only[Xn,hb]at hf
   obtain⟨hcond,hf2⟩:=XA hf
   simp only[Zo]at hcond
   have hver:=Zj hcond.1.1
   have hmp:b.mp=false:=by simpa using hcond.1.2
   have hle:=Wb hcond.2
   cases hm:Xl (Xl (Xn k h)) ((b.ch.drop off).take len)with
   |none=>simp[hm]at hf2
   |some es=>
   simp only[hm,Za]at hf2;subst hf2
   obtain⟨hlen,hget⟩:=VO hm
   have hel:es.length=len:=by rw[<-hlen];simp;omega
   obtain⟨rfl,C,T,hC,hd⟩:=hs hver.symm
   obtain⟨C2,hC2,hcl,hcs⟩:=(hI.blk id b hb).cells hmp
   rw[hC]at hC2;cases hC2
   have hnot:¬L (μ id):=hids id (by simp only[Wt,hb];exact Zh ..)
   have hfact:∀(i:Nat) (c:List PL),es[i]? =some c->∃x,b.ch[off+i]? =some x/\Xl (Xn k h) x=some c/\i<len:=by
    intro i c hi
    obtain⟨x,hx,hfx⟩:=hget i c hi
    rw[Z7]at hx
    split at hx
    ·rw[Z8]at hx;exact⟨x,hx,hfx,by assumption⟩
    ·simp at hx
   rw[<-hel]
   refine .lst (μ id) o b.sz cap es (fun i j=>C[o+i*b.sz+j]?.getD (.bool true)) (fun i c j d _ _=>hnot) (by omega) (fun i c hi=> ?_) (fun i c j d hi hj=> ?_) (fun i c j d hi hj=> ?_) (.inr rfl)
   ·obtain⟨x,hx,hfx,_⟩:=hfact i c hi
    rw[<-(VO hfx).1];exact(hcs _ x hx).1
   all_goals
    obtain⟨x,hx,hfx,hilt⟩:=hfact i c hi
    obtain⟨y,hy,hfy⟩:=(VO hfx).2 j d hj
    obtain⟨u,hu,hru⟩:=(hcs _ x hx).2 j y hy
    have ho:o=off*b.sz:=by
     rcases hd with⟨h1,_⟩|⟨h1,_⟩
     ·exact h1
     ·omega
    have hpos:C[o+i*b.sz+j]? =some u:=by rw[<-hu,ho];congr 1;rw[ZJ]
   ·simp only[World.cell?,hC,hpos];simp
   ·simp only[hpos,Option.getD_some]
    refine ih y d u hru hfy fun id2 hid2=>hids id2 ?_
    simp only[Wt,hb]
    refine Zc _ (Ya.2 ⟨x,?_,Ya.2 ⟨y,Zu hy,hid2⟩⟩)
    refine Zu (i:=i) ?_
    rw[Z7,if_pos hilt,Z8];exact hx
  |ptr id ver i off b g o hb hv hs=>
   simp only[Xn,hb]at hf
   obtain⟨hcond,hf2⟩:=XA hf
   simp only[Zo]at hcond
   have hver:=Zj hcond.1
   have hmp:b.mp=false:=by simpa using hcond.2
   cases hch:b.ch[i]? with
   |none=>simp[hch]at hf2
   |some c=>
   simp only[hch]at hf2
   cases hm:Xl (Xn k h) (c.drop off)with
   |none=>simp[hm]at hf2
   |some cs=>
   simp only[hm,Za]at hf2;subst hf2
   obtain⟨hlen,hget⟩:=VO hm
   obtain⟨rfl,rfl⟩:=hs hver.symm
   have hnot:¬L (μ id):=hids id (by simp only[Wt,hb,hch];exact Zh ..)
   have hcells:=chunk_cells hI hb hmp hch off
   refine .ref (μ id) (i*b.sz+off) cs (fun j=>(w.cell? ⟨μ id,i*b.sz+off+j,none⟩).getD (.bool true)) (fun _ _ _=>hnot) (fun j d hj=> ?_) (fun j d hj=> ?_)
   all_goals
    obtain⟨x,hx,hfx⟩:=hget j d hj
    obtain⟨u,hu,hru⟩:=hcells j x hx
   ·simp only[hu,Option.getD_some]
   ·simp only[hu,Option.getD_some]
    refine ih x d u hru hfx fun id2 hid2=>hids id2 ?_
    simp only[Wt,hb,hch]
    exact Zc _ (Ya.2 ⟨x,Zu hx,hid2⟩)
theorem freezeV1_rep (hI:HInv w O μ h)(L:BS)(hL:∀b,L b->Live O μ h b)(d:DV)(p:PV)(v:Value)(hr:Xo w O μ h v d)(hf:Xw h d=some p)(hids:∀id∈UC h d,¬L (μ id)):Xo w L μ0 h0 v (inj p):=by
 cases d with
 |tup _=>simp[Xw]at hf
 |one l=>
  simp only[Xw]at hf
  cases hl:Xn XM h l with
  |none=>simp[hl]at hf
  |some pl=>
  simp only[hl,Za]at hf;subst hf
  have:=freezeL_rep hI L hL _ l pl v hr hl hids
  exact RepD.p _ _ (by rw[TV];exact this)
 |agg cs=>
  simp only[Xw]at hf
  cases hl:Xl (Xn XM h) cs with
  |none=>simp[hl]at hf
  |some pls=>
  simp only[hl,Za]at hf;subst hf
  obtain⟨xs,rfl,ha⟩:=hr
  refine⟨xs,rfl,?_⟩
  obtain⟨hlen,hget⟩:=VO hl
  refine All2.Vk (by rw[ha.length,hlen];simp) fun i x y hx hy=> ?_
  rw[Zv]at hy
  cases hp:pls[i]? with
  |none=>simp[hp]at hy
  |some pl=>
  simp only[hp,ZS,Za]at hy;subst hy
  obtain⟨c,hc,hfc⟩:=hget i pl hp
  obtain⟨x',hx',hrx⟩:=ha.get i c hc
  rw[hx]at hx';cases hx'
  have hp2:RepP w L x pl:=by
   refine freezeL_rep hI L hL _ c pl x hrx hfc fun id hid=>hids id ?_
   simp only[UC]
   exact Ya.2 ⟨c,Zu hc,hid⟩
  exact RepD.p _ _ (by rw[TV];exact hp2)
end
end Go.Ev
namespace Go.Ev
open Go.RowKit
section
variable {P:Program}{O:BS}{w:World}{μ:Nat->Nat}{h:HF}{n:Nat}
def CC (P:Program)(f:Nat)(ps:List PV)(r:PV):Prop:=
 ∀(w:World) (L:BS) (vs:List Value),(∀b,L b->b<w.heap.size)->All2 (fun v p=>Xo w L μ0 h0 v (inj p)) vs ps->
  Calls P f vs.toArray w fun e w'=>∃v,e=.returned v/\Xo w' L μ0 h0 v (inj r)/\Below w.heap.size w w'
theorem scalarL {w':World}{L L':BS}{v:Value}{l:PL}(hs:l.scalar=true)(r:RepP w L v l):RepP w' L' v l:=by
 cases r with
 |bool b=>exact .bool b
 |int k a=>exact .int k a
 |nilS=>exact .nilS
 |str s=>exact .str s
 |junk v h=>exact .junk v h
 |fn=>simp[PL.scalar]at hs
 |ref=>simp[PL.scalar]at hs
 |lst=>simp[PL.scalar]at hs
theorem RepD.inv_p {v:Value}{l:PL}(r:RepD w O μ h v (.p l)):RepP w (Live O μ h) v l:=by cases r with |p _ _ hp=>exact hp
theorem inj1_of {w':World}{O':BS}{μ':Nat->Nat}{h':HF}{p:PV}{v:Value}(hp:∀v l,RepP w (Live O μ h) v l->RepP w' (Live O' μ' h') v l)(r:WS w O μ h v (inj1 p)):
  WS w' O' μ' h' v (inj1 p):=by
 cases p with
 |one l=>exact RepD.p _ _ (hp _ _ (RepD.inv_p r))
 |agg cs=>
  obtain⟨xs,rfl,ha⟩:=r
  refine⟨xs,rfl,?_⟩
  refine All2.Vk ha.length fun i x y hx hy=> ?_
  obtain⟨x',hx',hr⟩:=ha.get i y hy
  rw[hx]at hx';cases hx'
  rw[Zv]at hy
  cases hc:cs[i]? with
  |none=>simp[hc]at hy
  |some l=>simp only[hc,ZS,Za]at hy;subst hy;exact RepD.p _ _ (hp _ _ (RepD.inv_p hr))
 |tup vs=>exact r
theorem inj_of {w':World}{O':BS}{μ':Nat->Nat}{h':HF}{p:PV}{v:Value}(hp:∀v l,RepP w (Live O μ h) v l->RepP w' (Live O' μ' h') v l)(r:Xo w O μ h v (inj p)):Xo w' O' μ' h' v (inj p):=by
 cases p with
 |one l=>exact inj1_of (p:=.one l) hp r
 |agg cs=>exact inj1_of (p:=.agg cs) hp r
 |tup vs=>
  obtain⟨xs,rfl,ha⟩:=r
  refine⟨xs,rfl,All2.Vk ha.length fun i x y hx hy=> ?_⟩
  obtain⟨x',hx',hr⟩:=ha.get i y hy
  rw[hx]at hx';cases hx'
  rw[Zv]at hy
  cases hv:vs[i]? with
  |none=>simp[hv]at hy
  |some q=>simp only[hv,ZS,Za]at hy;subst hy;exact inj1_of (p:=q) hp hr
theorem inj1_scalar {w':World}{O':BS}{μ':Nat->Nat}{h':HF}{p:PV}{v:Value}(hs:p.scalar1=true)(r:WS w O μ h v (inj1 p)):
  WS w' O' μ' h' v (inj1 p):=by
 cases p with
 |one l=>exact RepD.p _ _ (scalarL hs (RepD.inv_p r))
 |agg cs=>
  obtain⟨xs,rfl,ha⟩:=r
  refine⟨xs,rfl,All2.Vk ha.length fun i x y hx hy=> ?_⟩
  obtain⟨x',hx',hr⟩:=ha.get i y hy
  rw[hx]at hx';cases hx'
  rw[Zv]at hy
  cases hc:cs[i]? with
  |none=>simp[hc]at hy
  |some l=>
   simp only[hc,ZS,Za]at hy;subst hy
   exact RepD.p _ _ (scalarL (ZP.1 hs l (Zu hc)) (RepD.inv_p hr))
 |tup vs=>exact r
theorem inj_scalar {w':World}{O':BS}{μ':Nat->Nat}{h':HF}{p:PV}{v:Value}(hs:p.scalar=true)(r:Xo w O μ h v (inj p)):Xo w' O' μ' h' v (inj p):=by
 cases p with
 |one l=>exact inj1_scalar (p:=.one l) hs r
 |agg cs=>exact inj1_scalar (p:=.agg cs) hs r
 |tup vs=>
  obtain⟨xs,rfl,ha⟩:=r
  refine⟨xs,rfl,All2.Vk ha.length fun i x y hx hy=> ?_⟩
  obtain⟨x',hx',hr⟩:=ha.get i y hy
  rw[hx]at hx';cases hx'
  rw[Zv]at hy
  cases hv:vs[i]? with
  |none=>simp[hv]at hy
  |some q=>
   simp only[hv,ZS,Za]at hy;subst hy
   exact inj1_scalar (p:=q) (ZP.1 hs q (Zu hv)) hr
def frz (h:HF)(ids:List Nat):HF:=fun x=>if x∈ids then(h x).map fun b=>{b with fz:=true}else h x
theorem updWr_frz:∀(ids:List Nat) (h g:HF),(∀x b,h x=some b->∃b',g x=some b'/\{b' with fz:=true}={b with fz:=true})->(∀id∈ids,∃b,h id=some b)->
  Uk g (ids.filterMap (fun id=>(h id).map fun b=>(id,{b with fz:=true})))=fun x=>if x∈ids then(h x).map fun b=>{b with fz:=true}else g x
 |[],h,g,_,_=>by funext x;simp[Uk]
 |id::ids,h,g,hg,hs=>by
  obtain⟨b,hb⟩:=hs id (by simp)
  rw[List.filterMap_cons]
  simp only[hb,ZS,Uk]
  rw[updWr_frz ids h _ (fun x c hc=> ?_) (fun i hi=>hs i (by simp[hi]))]
  ·funext x
   by_cases h1:x∈ids
   ·simp[h1]
   ·by_cases h2:x=id
    ·subst h2;simp[h1,hb]
    ·simp[h1,h2]
  ·by_cases h2:x=id
   ·subst h2;rw[hb]at hc;cases hc;exact⟨{b with fz:=true},by simp,rfl⟩
   ·obtain⟨c',hc',e⟩:=hg x c hc;exact⟨c',by simp[h2,hc'],e⟩
theorem frz_mem {ids:List Nat}{x:Nat}{b:Blk}(hb:h x=some b):∃b',frz h ids x=some b'/\b'.ver=b.ver/\b'.sz=b.sz/\b'.ch=b.ch/\b'.mp=b.mp/\b'.ty=b.ty/\(b'.fz=false->b.fz=false/\x∉ids):=by
 unfold frz
 by_cases hx:x∈ids
 ·exact⟨{b with fz:=true},by simp[hx,hb],rfl,rfl,rfl,rfl,rfl,fun e=>by simp at e⟩
 ·exact⟨b,by simp[hx,hb],rfl,rfl,rfl,rfl,rfl,fun e=>⟨e,hx⟩⟩
theorem frz_inv {ids:List Nat}{x:Nat}{b':Blk}(hb:frz h ids x=some b'):∃b,h x=some b/\b'.ver=b.ver/\b'.sz=b.sz/\b'.ch=b.ch/\b'.mp=b.mp/\b'.ty=b.ty/\(b'.fz=false->b.fz=false/\x∉ids):=by
 cases hx:h x with
 |none=>unfold frz at hb;simp[hx]at hb
 |some b=>
  obtain⟨c,hc,rest⟩:=frz_mem (ids:=ids) hx
  rw[hb]at hc;cases hc
  exact⟨b,rfl,rest⟩
theorem frz_state {w':World}(hI:HInv w O μ h)(ids:List Nat)(hsz:w.heap.size<=w'.heap.size)(hblk:∀k,k<w.heap.size->w'.heap[k]? =w.heap[k]?)(hos:w'.os=w.os)(hta:w'.tape=w.tape)(hou:w'.output=w.output):
  Mono O w μ h w' μ (frz h ids)/\HInv w' O μ (frz h ids):=by
 have hm:Mono O w μ h w' μ (frz h ids):=by
  refine⟨hos,hta,hou,⟨hsz,fun k hk _=>hblk k hk,fun k hk=> ?_⟩,fun k hk=>hblk k (hI.lt k hk),fun id b hb=> ?_,fun _ _ _ _=>rfl⟩
  ·rcases hk with hk|⟨id,blk,hid,hf,he⟩
   ·exact .inl (.inl hk)
   ·obtain⟨b,hb,_,_,_,_,_,hfz⟩:=frz_inv hid
    exact .inl (.inr ⟨id,b,hb,(hfz hf).1,he⟩)
  ·obtain⟨b',hb',e1,e2,e3,e4,e5,_⟩:=frz_mem (ids:=ids) hb
   exact⟨b',hb',by omega,e4,fun _=>⟨rfl,e2,fun C T hC=>⟨C,by rw[hblk _ (hI.lt_size hb)];exact hC,rfl⟩⟩⟩
 refine⟨hm,⟨fun id b' hb'=> ?_,fun i1 i2 x y hx hy he=> ?_,fun id b' hb'=> ?_,fun k hk=>ZQ (hI.lt k hk) hsz⟩⟩
 ·obtain⟨b,hb,e1,e2,e3,e4,e5,_⟩:=frz_inv hb'
  have:=(hI.blk id b hb).mono hm (hblk _ (hI.lt_size hb))
  unfold X9 at this⊢
  rw[e1,e2,e3,e4,e5];exact this
 ·obtain⟨b,hb,_⟩:=frz_inv hx
  obtain⟨c,hc,_⟩:=frz_inv hy
  exact hI.inj i1 i2 b c hb hc he
 ·obtain⟨b,hb,_⟩:=frz_inv hb'
  exact hI.disj id b hb
theorem SA:∀(k:Nat) (l:DL),∀id∈Wt k h l,∃b,h id=some b
 |0,.p _,id,hid=>by simp[Wt]at hid
 |0,.own ..,id,hid=>by simp[Wt]at hid
 |0,.ptr ..,id,hid=>by simp[Wt]at hid
 |0,.fn ..,id,hid=>by simp[Wt]at hid
 |0,.mp _,id,hid=>by simp[Wt]at hid
 |k+1,.p _,id,hid=>by simp[Wt]at hid
 |k+1,.mp _,id,hid=>by simp[Wt]at hid
 |k+1,.fn f caps,id,hid=>by
  simp only[Wt]at hid
  obtain⟨x,_,hx⟩:=Ya.1 hid
  exact SA k x id hx
 |k+1,.own i ver off len,id,hid=>by
  simp only[Wt]at hid
  cases hb:h i with
  |none=>simp[hb]at hid
  |some b=>
  simp only[hb,Zk]at hid
  rcases hid with rfl|hid
  ·exact⟨b,hb⟩
  ·obtain⟨c,_,hc⟩:=Ya.1 hid
   obtain⟨x,_,hx⟩:=Ya.1 hc
   exact SA k x id hx
 |k+1,.ptr i ver j off,id,hid=>by
  simp only[Wt]at hid
  cases hb:h i with
  |none=>simp[hb]at hid
  |some b=>
  simp only[hb]at hid
  cases hc:b.ch[j]? with
  |none=>simp[hc]at hid
  |some c=>
  simp only[hc,Zk]at hid
  rcases hid with rfl|hid
  ·exact⟨b,hb⟩
  ·obtain⟨x,_,hx⟩:=Ya.1 hid
   exact SA k x id hx
theorem idsV_some (d:DV):∀id∈UC h d,∃b,h id=some b:=by
 intro id hid
 cases d with
 |one l=>exact SA _ l id hid
 |agg cs=>obtain⟨c,_,hc⟩:=Ya.1 hid;exact SA _ c id hc
 |tup _=>simp[UC]at hid
theorem call_pure (E:Oracle)(f:Nat)(hE:∀ps r,E.pure f ps=some r->CC P f ps r)(vs:List Value)(ds:List DV)(hds:All2 (Xo w O μ h) vs ds)(r:Res)(hr:Wc E h f ds=some r)(hI:HInv w O μ h):
  Calls P f vs.toArray w fun e w'=>∃v,e=.returned v/\Xo w' O μ (upd h n r) v r.val/\HInv w' O μ (upd h n r)/\Mono O w μ h w' μ (upd h n r):=by
 unfold Wc at hr
 split at hr
 ·cases hm:Xl (Xw h) ds with
  |none=>simp[hm]at hr
  |some ps=>
  simp only[hm]at hr
  cases hp:E.pure f ps with
  |none=>simp[hp]at hr
  |some pr=>
  simp only[hp]at hr
  have hcc:=hE ps pr hp
  generalize hids:ds.flatMap (UC h)=ids at hr
  have hsome:∀id∈ids,∃b,h id=some b:=by
   intro id hid
   rw[<-hids]at hid
   obtain⟨d,_,hd⟩:=Ya.1 hid
   exact idsV_some d id hd
  let L:BS:=fun b=>Live O μ h b/\¬∃id∈ids,μ id=b
  have hlt:∀b,L b->b<w.heap.size:=by
   intro b hb
   rcases hb.1 with h1|⟨id,blk,hid,_,rfl⟩
   ·exact hI.lt b h1
   ·exact hI.lt_size hid
  have hargs:All2 (fun v p=>Xo w L μ0 h0 v (inj p)) vs ps:=by
   obtain⟨hlen,hget⟩:=VO hm
   refine All2.Vk (by rw[hds.length,hlen]) fun i v p hv hp=> ?_
   obtain⟨d,hd,hfd⟩:=hget i p hp
   obtain⟨v',hv',hrep⟩:=hds.get i d hd
   rw[hv]at hv';cases hv'
   refine freezeV1_rep hI L (fun b hb=>hb.1) d p v hrep hfd fun id hid hL=>hL.2 ⟨id,?_,rfl⟩
   rw[<-hids]
   exact Ya.2 ⟨d,Zu hd,hid⟩
  refine(hcc w L vs hlt hargs).mono fun e w' ⟨v,he,hrep,hbel⟩=>⟨v,he,?_⟩
  cases hcond:(ids.isEmpty||pr.scalar)with
  |true=>
   rw[hcond,cond_true,Za]at hr;subst hr
   obtain⟨hmono,hinv⟩:=UL hI hbel.size hbel.block hbel.os hbel.tape hbel.output
   refine⟨?_,hinv,hmono⟩
   rw[Bool.or_eq_true]at hcond
   rcases hcond with h1|h1
   ·have hnil:ids=[]:=by simpa using h1
    refine inj_of (fun v l hp=> ?_) hrep
    rw[TV]at hp
    refine hp.anti fun b hb=>⟨hb,?_⟩
    rw[hnil];simp
   ·exact inj_scalar h1 hrep
  |false=>
   rw[hcond,cond_false,Za]at hr;subst hr
   have hupd:upd h n ⟨inj pr,[],ids.filterMap (fun id=>(h id).map fun b=>(id,{b with fz:=true})),ids⟩=frz h ids:=by
    show Uk h _=_
    rw[updWr_frz ids h h (fun x b hb=>⟨b,hb,rfl⟩) hsome]
    rfl
   rw[hupd]
   obtain⟨hmono,hinv⟩:=frz_state hI ids hbel.size hbel.block hbel.os hbel.tape hbel.output
   refine⟨?_,hinv,hmono⟩
   refine inj_of (fun v l hp=> ?_) hrep
   rw[TV]at hp
   refine hp.anti fun b hb=> ?_
   rcases hb with h1|⟨id,blk,hid,hf,rfl⟩
   ·refine⟨.inl h1,fun⟨id,hid,he⟩=> ?_⟩
    obtain⟨c,hc⟩:=hsome id hid
    exact hI.disj id c hc (he▸h1)
   ·obtain⟨c,hc,_,_,_,_,_,hfz⟩:=frz_inv hid
    obtain⟨hf1,hf2⟩:=hfz hf
    refine⟨.inr ⟨id,c,hc,hf1,rfl⟩,fun⟨id2,hid2,he⟩=> ?_⟩
    obtain⟨c2,hc2⟩:=hsome id2 hid2
    have:=hI.inj id2 id c2 c hc2 hc he
    subst this;exact hf2 hid2
 ·simp at hr
end
end Go.Ev
