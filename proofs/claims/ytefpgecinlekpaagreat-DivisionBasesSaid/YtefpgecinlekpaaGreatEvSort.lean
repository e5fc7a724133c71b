/- The library's sort, as a call over the caller's blocks: the chunks of a slice end up in the one order in which they are sorted. -/
import Derived.Test.YtefpgecinlekpaaGreatEvTop
import Derived.Test.YtefpgecinlekpaaGreatEvDrawn
import Derived.Lib.QuietBelow
import Derived.Shelf.SlSortCmp.NoneTotal
set_option maxHeartbeats 16000000
namespace Go.Ev
open Go.RowKit Go.Shelf Go.Lib Go.Sort Go.Proofs
section
variable {P:Program}{O:BS}{w:World}{μ:Nat->Nat}{h:HF}
theorem cmp_lays {g:Nat}{caps:List PL}{cv:List Value}{x y:List PL}{xv yv:List Value}{z:Int}{W:World}{L:BS}(hc:CC P g (.agg x::.agg y::caps.map .one) (.one (.int .i64 z)))
  (hl:∀b,L b->b<W.heap.size) (hx:All2 (RepP W L) xv x) (hy:All2 (RepP W L) yv y) (hcv:All2 (RepP W L) cv caps):
  Calls P g (#[.agg xv.toArray,.agg yv.toArray]++cv.toArray) W fun e w'=>e=.returned (.int .i64 z)/\∃q os',w'=grow (W.drewN q) os':=by
 have lift:∀{vs:List Value} {ls:List PL},All2 (RepP W L) vs ls->All2 (RepD W L μ0 h0) vs (ls.map .p):=by
  intro vs ls ha
  induction ha with
  |nil=>exact .nil
  |cons h _ ih=>exact .cons (.p _ _ (by rw[TV];exact h)) ih
 have hargs:All2 (fun v p=>Xo W L μ0 h0 v (inj p)) (.agg xv.toArray::.agg yv.toArray::cv) (.agg x::.agg y::caps.map .one):=by
  refine .cons ⟨xv,rfl,lift hx⟩ (.cons ⟨yv,rfl,lift hy⟩ ?_)
  clear hc
  induction hcv with
  |nil=>exact .nil
  |cons h _ ih=>exact .cons (RepD.p _ _ (by rw[TV];exact h)) ih
 have h1:=hc W L _ hl hargs
 have h2:=calls_drawn h1 (fun e w' ⟨v,he,_⟩=>⟨v,he⟩)
 have e:(#[.agg xv.toArray,.agg yv.toArray]++cv.toArray)=(Value.agg xv.toArray::.agg yv.toArray::cv).toArray:=by simp
 rw[e]
 refine h2.mono fun e w' ⟨⟨v,he,hv,hb⟩,hd⟩=> ?_
 have hv':v=.int .i64 z:=by
  cases hv with
  |p _ _ hp=>cases hp;rfl
 subst hv'
 refine⟨he,?_⟩
 obtain⟨p,hp⟩:=regrown_of_below hb
 refine⟨p.d-W.drawn,p.os,?_⟩
 have :w'.drawn=p.d:=by rw[hp];rfl
 rw[hp]
 have e2:W.drawn+(p.d-W.drawn)=p.d:=by omega
 unfold redrawn World.drewN
 rw[e2]
theorem X9.of_row {id:Nat}{b:Blk}(hm:b.mp=false){C:Array Value}(hC:w.heap[μ id]? =some (.cells C b.ty (0,0)))(hl:b.ch.length*b.sz<=C.size)
  (hc:∀(i:Nat) (c:List DL),b.ch[i]? =some c->c.length=b.sz/\∀(j:Nat) (d:DL),c[j]? =some d->∃v,C[i*b.sz+j]? =some v/\RepD w O μ h v d):X9 w O μ h id b:=by
 unfold X9
 rw[hm,if_neg (by simp)]
 exact⟨C,hC,hl,hc⟩
theorem VH {α:Type}[Inhabited α](enc:α->List Value)(k:Nat)(w:World)(blk m:Nat)(dk:Array α)(os:Array Obj)(b:Nat)(hb:b<w.heap.size)(hne:b≠blk):(sortWorldK enc k w blk 0 m dk os).heap[b]? =w.heap[b]? :=by
 unfold sortWorldK grow putRowK putRow mapBlock Sort.ahead
 rw[Array.getElem?_append_left (by simpa using hb),Array.getElem?_modify,if_neg (fun e=>hne e.symm)]
theorem sortWorld_row {α:Type}[Inhabited α](enc:α->List Value)(k:Nat)(w:World)(blk m:Nat)(dk:Array α)(os:Array Obj){C:Array Value}{T:TypeId}(hC:w.heap[blk]? =some (.cells C T (0,0))):
  (sortWorldK enc k w blk 0 m dk os).heap[blk]? =some (.cells (putCells id 0 (flatK enc k dk) C) T (0,0)):=by
 have hb:blk<w.heap.size:=(ZW.1 hC).1
 unfold sortWorldK grow putRowK putRow mapBlock Sort.ahead
 rw[Array.getElem?_append_left (by simpa using hb),Array.getElem?_modify,if_pos rfl,hC]
 rfl
theorem Ts {α:Type}(a:Array α){n:Nat}(h:a.size=n):a.extract 0 n=a:=by subst h;exact Array.extract_size
def Wj (C:Array Value)(k:Nat)(i:Nat):List Value:=(C.toList.drop (i*k)).take k
theorem TI {C:Array Value}{k n i:Nat}(h:n*k<=C.size)(hi:i<n):(Wj C k i).length=k:=by
 have:=Zn k (show i+1<=n from hi)
 rw[ZJ,Z9]at this
 simp only[Wj,ZK,List.length_drop,Yr]
 omega
theorem TJ {C:Array Value}{k i j:Nat}(hj:j<k):(Wj C k i)[j]? =C[i*k+j]? :=by
 rw[Wj,Z7,if_pos hj,Z8,Array.getElem?_toList]
theorem flat_div {k n t:Nat}(h:t<n*k):t / k<n/\t%k<k/\t / k*k+t%k=t:=by
 have k0:0<k:=by
  rcases Z0 k with e|e
  ·subst e;simp at h
  ·exact e
 exact⟨Yb (by rw[ZE];exact h),ZN _ k0,Nat.div_add_mod' t k⟩
theorem flat_get {n k:Nat}[Inhabited (Fin n)]{C:Array Value}(h:n*k<=C.size)(dk:Array (Fin n))(hs:dk.size=n){t:Nat}(ht:t<n*k):
  some ((flatK (fun i:Fin n=>Wj C k i) k dk)[t]!)=C[(dk[t / k]!).val*k+t%k]? :=by
 obtain⟨h1,h2,h3⟩:=flat_div ht
 rw[get_flatK _ _ _ _ (by rw[hs];exact ht)]
 have hl:=TI h (dk[t / k]!).isLt
 rw[<-TJ h2]
 rw[getElem!_pos _ _ (by rw[hl];exact h2),Zf (by rw[hl];exact h2)]
end
theorem pdq_CH {P:Program}{ρ:Ren}(L:SlLaysF0.n14 P ρ){k:Nat}(aE:∀w,(isAgg (ρ.t 24)).run P w=.ok true w)(zE:∀w,(Go.sizeOf (ρ.t 24)).run P w=.ok k w){f g:Nat}(hf:ρ.f 14=f)(hg:Nat.blt g bnd=true)(eg:Ent P g)(caps:List PL)
  (cmpF:List PL->List PL->Int) (H:List Blk) (id:Nat) (b:Blk) (es ds:List (List PL)) (lm:Nat) (hb:H[id]? =some b) (hmp:b.mp=false) (hfz:b.fz=false) (hsz:b.sz=k) (hch:b.ch=es.map (·.map DL.p))
  (hlm:lm<4611686018427387904) (hn:es.length<4611686018427387904) (hcmp:∀x∈es,∀y∈es,CC P g (.agg x::.agg y::caps.map .one) (.one (.int .i64 (cmpF x y))))
  (irr:∀x∈es,¬cmpF x x<0) (tr:∀x∈es,∀y∈es,∀z∈es,cmpF x y<0->cmpF y z<0->cmpF x z<0) (ntr:∀x∈es,∀y∈es,∀z∈es,¬cmpF x y<0->¬cmpF y z<0->¬cmpF x z<0)
  (tot:∀x∈es,∀y∈es,¬cmpF x y<0->¬cmpF y x<0->x=y) (hp:ds.Perm es) (hs:ds.Pairwise fun x y=>¬cmpF y x<0):
  CH P f [.one (.own id b.ver 0 es.length),.one (.p (.int .i64 (.ofNat 0))),.one (.p (.int .i64 (.ofNat es.length))),.one (.p (.int .i64 (.ofNat lm))),.one (.p (.fn g caps))] H (.tup []) (H.set id {b with ch:=ds.map (·.map DL.p)}):=by
 intro w O μ vs hI hargs
 have hidl:id<H.length:=(Zb.1 hb).1
 have hbH:Xi H id=some b:=hb
 cases hargs with |cons a1 t=> ?_
 cases t with |cons a2 t=> ?_
 cases t with |cons a3 t=> ?_
 cases t with |cons a4 t=> ?_
 cases t with |cons a5 t=> ?_
 cases t
 rename_i v1 v2 v3 v4 v5
 have e2:v2=.int .i64 (.ofNat 0):=by cases a2 with |p _ _ hp=>cases hp;rfl
 have e3:v3=.int .i64 (.ofNat es.length):=by cases a3 with |p _ _ hp=>cases hp;rfl
 have e4:v4=.int .i64 (.ofNat lm):=by cases a4 with |p _ _ hp=>cases hp;rfl
 obtain⟨cv,e5,hcl,hcr⟩:∃cv,v5=.func (.func g) #[] cv.toArray/\cv.length=caps.length/\All2 (RepP w (Live O μ (Xi H))) cv caps:=by
  cases a5 with |p _ _ hp=> ?_
  cases hp with |fn _ _ cv hl hc=> ?_
  refine⟨cv,fnV_t hg cv,hl,All2.Vk hl fun i x y hx hy=>hc i y x hy hx⟩
 have hbo:=hI.blk id b hbH
 unfold X9 at hbo
 rw[hmp]at hbo
 simp only[Zs,if_false]at hbo
 obtain⟨C,hC,hCs,hCc⟩:=hbo
 obtain⟨cap,e1⟩:∃cap,v1=.slice (some ⟨μ id,0,none⟩) es.length cap:=by
  cases a1 with |own _ _ _ _ b2 g2 o cap hb2 hv hl hs2=> ?_
  rw[hbH]at hb2;cases hb2
  obtain⟨rfl,C2,T2,hC2,hd⟩:=hs2 rfl
  rcases hd with⟨ho,-,-⟩|⟨-,-,h0⟩
  ·rw[YK]at ho;subst ho;exact⟨cap,rfl⟩
  ·omega
 subst e1;subst e2;subst e3;subst e4;subst e5
 subst hf
 by_cases hne:es=[]
 ·subst hne
  have hds:ds=[]:=by simpa using hp.length_eq
  subst hds
  have hsame:({b with ch:=([]:List (List PL)).map (·.map DL.p)}:Blk)=b:=by
   have :b.ch=[]:=by simpa using hch
   cases b;simp_all
  have hset:H.set id b=H:=by
   obtain⟨h1,h2⟩:=Zb.1 hb
   apply List.ext_getElem (by simp)
   intro i h3 h4
   rw[List.getElem_set]
   split
   ·rename_i e;subst e;exact h2.symm
   ·rfl
  rw[hsame,hset]
  refine(AnyF.pdqsortCmpFunc_none L (some ⟨μ id,0,none⟩) cap lm (.func (.func g) #[] cv.toArray) w).mono fun e w' ⟨he,hw⟩=> ?_
  subst hw
  exact⟨_,μ,he,⟨[],rfl,.nil⟩,hI,Mono.refl ..⟩
 ·have hpos:0<es.length:=List.length_pos_iff.2 hne
  haveI:Inhabited (Fin es.length):=⟨⟨0,hpos⟩⟩
  have hlenb:b.ch.length=es.length:=by rw[hch];simp
  rw[hlenb,hsz]at hCs
  have hchunk:∀(i:Nat) (c:List PL),es[i]? =some c->c.length=k/\All2 (RepP w (Live O μ (Xi H))) (Wj C k i) c:=by
   intro i c hi
   have hi':i<es.length:=(Zb.1 hi).1
   have h1:=hCc i (c.map DL.p) (by rw[hch,Zv,hi];rfl)
   rw[hsz]at h1
   have hck:c.length=k:=by simpa using h1.1
   refine⟨hck,All2.Vk (by rw[TI hCs hi',hck]) fun j v d hv hd=> ?_⟩
   have hj:j<k:=by rw[<-hck];exact(Zb.1 hd).1
   rw[TJ hj]at hv
   obtain⟨v',hv',hr⟩:=h1.2 j (.p d) (by rw[Zv,hd];rfl)
   rw[hv]at hv';cases hv'
   cases hr with |p _ _ hp=>exact hp
  have hget:∀i:Fin es.length,es[i.val]? =some es[i.val]:=fun i=>Zf i.isLt
  have hkk:∀i:Fin es.length,(Wj C k i).length=k:=fun i=>TI hCs i.isLt
  have h1c:∀i:Fin es.length,∀v∈Wj C k i,v.oneCell'=true:=by
   intro i v hv
   obtain⟨j,hj⟩:=Z2.1 hv
   have ha:=(hchunk i _ (hget i)).2
   have hjl:j<es[i.val].length:=by rw[<-ha.length];exact(Zb.1 hj).1
   obtain⟨x,hx,hr⟩:=ha.get j _ (Zf hjl)
   rw[hj]at hx;cases hx
   exact hr.one
  let d0:Array (Fin es.length):=Array.ofFn fun i=>i
  have hd0:d0.size=es.length:=by simp[d0]
  have hd0g:∀i (hi:i<es.length),d0[i]! =⟨i,hi⟩:=by
   intro i hi
   rw[getElem!_pos d0 i (by rw[hd0];exact hi)]
   simp[d0]
  have hH:HoldsK (fun i:Fin es.length=>Wj C k i) k w (μ id) 0 d0:=by
   intro j hj
   rw[size_flatK,hd0]at hj
   have hf:=flat_get hCs d0 hd0 hj
   obtain⟨q1,q2,q3⟩:=flat_div hj
   rw[hd0g _ q1]at hf
   rw[q3]at hf
   have hjC:j<C.size:=by omega
   refine⟨?_,?_⟩
   ·simp only[World.cell?,hC,ZY]
    simpa using hf.symm
   ·simp[World.frozen?,hC]
  have hlt:∀q,Live O μ (Xi H) q->q<w.heap.size:=by
   rintro q (hq|⟨i,blk,h1,_,rfl⟩)
   ·exact hI.lt q hq
   ·exact hI.lt_size h1
  have hlive:Live O μ (Xi H) (μ id):=.inr ⟨id,b,hbH,hfz,rfl⟩
  have keepW:∀(m:Nat) (dk:Array (Fin es.length)) (os:Array Obj),Keeps w (Live O μ (Xi H)) (sortWorldK (fun i:Fin es.length=>Wj C k i) k w (μ id) 0 m dk os) (Live O μ (Xi H)):=by
   intro m dk os
   exact⟨size_sortWorldK_c _ _ _ _ _ _ _ _,fun q hq hl=>VH _ _ _ _ _ _ _ _ hq fun e=>hl (e▸hlive),fun q hq=>.inl hq⟩
  let cf:Fin es.length->Fin es.length->Int:=fun i j=>cmpF es[i.val] es[j.val]
  have hmem:∀i:Fin es.length,es[i.val]∈es:=fun i=>YP i.isLt
  have hO:SWO (ltOf cf):=by
   refine⟨fun x=> ?_,fun x y z h1 h2=> ?_,fun x y z h1 h2=> ?_⟩
   ·simp only[ltOf,cf,decide_eq_false_iff_not];exact irr _ (hmem x)
   ·simp only[ltOf,cf,decide_eq_true_eq]at *;exact tr _ (hmem x) _ (hmem y) _ (hmem z) h1 h2
   ·simp only[ltOf,cf,decide_eq_false_iff_not]at *;exact ntr _ (hmem x) _ (hmem y) _ (hmem z) h1 h2
  have hcl:CmpLays P g cv.toArray (fun i:Fin es.length=>Wj C k i) k cf (μ id) 0 d0.size w:=by
   intro m os dk hdk x y
   have kp:=keepW m dk os
   refine cmp_lays (L:=Live O μ (Xi H)) (hcmp _ (hmem x) _ (hmem y)) (fun q hq=>ZQ (hlt q hq) kp.size) ?_ ?_ ?_
   ·exact((hchunk x _ (hget x)).2).imp fun _ _ h=>h.keeps kp
   ·exact((hchunk y _ (hget y)).2).imp fun _ _ h=>h.keeps kp
   ·exact hcr.imp fun _ _ h=>h.keeps kp
  have hblk:μ id<w.heap.size:=hI.lt_size hbH
  have hmain:=AnyQ.pdqsortCmpFunc_all L k aE zE (fun i:Fin es.length=>Wj C k i) cf g cv.toArray hO (μ id) 0 cap d0 w eg hcl ⟨hkk,h1c,hH,hblk⟩ (es.length+1) 0 es.length lm d0 w (by omega) rfl (SWK.start hH) (Zr _) (by rw[hd0];exact Zg _) (by rw[hd0];exact hn) hlm (Or.inl rfl)
  rw[hd0]at hmain
  refine hmain.mono fun e w' ⟨he,hsw⟩=> ?_
  clear hmain
  obtain⟨hperm,hsort⟩:=pdq_sorts (ltOf cf) hO d0 0 es.length lm true true (Zr _) (by rw[hd0];exact Zg _) (Or.inl rfl)
  obtain⟨m,os,rfl⟩:=hsw
  generalize pdq (ltOf cf) d0 0 es.length lm true true=dk at hperm hsort
  obtain⟨hsz1,-,hperm⟩:=hperm
  have hsz2:dk.size=es.length:=by rw[hsz1,hd0]
  have x1:dk.extract 0 es.length=dk:=Ts dk hsz2
  have x2:d0.extract 0 es.length=d0:=Ts d0 hd0
  rw[x1,x2]at hperm
  have hd0m:d0.toList.map (fun i=>es[i.val])=es:=by
   apply List.ext_getElem (by simp[hd0])
   intro i h1 h2
   simp[d0]
  have heq:ds=dk.toList.map fun i=>es[i.val]:=by
   have hp2:(dk.toList.map fun i=>es[i.val]).Perm es:=by
    have:=hperm.map fun i:Fin es.length=>es[i.val]
    rwa[hd0m]at this
   refine List.Perm.eq_of_pairwise (le:=fun x y=>¬cmpF y x<0) (fun x y hx hy h1 h2=>tot x (hp.mem_iff.1 hx) y (hp2.mem_iff.1 hy) h2 h1) hs ?_ (hp.trans hp2.symm)
   rw[List.pairwise_map,List.pairwise_iff_getElem]
   intro i j hi hj hij
   have:=hsort i j (Zr _) hij (by rw[<-hsz2];simpa using hj)
   rw[getElem!_pos dk i (by simpa using hi),getElem!_pos dk j (by simpa using hj)]at this
   simpa[ltOf,cf]using this
  have hdl:ds.length=es.length:=hp.length_eq
  have kp:=keepW m dk os
  have hrow:=sortWorld_row (fun i:Fin es.length=>Wj C k i) k w (μ id) m dk os hC
  have hCs2:(putCells _root_.id 0 (flatK (fun i:Fin es.length=>Wj C k i) k dk) C).size=C.size:=by simp[putCells]
  generalize hW:sortWorldK (fun i:Fin es.length=>Wj C k i) k w (μ id) 0 m dk os=W at hrow kp
  have hWo:W.os=w.os/\W.tape=w.tape/\W.output=w.output:=by rw[<-hW];exact⟨rfl,rfl,rfl⟩
  have hWh:∀q,q<w.heap.size->q≠μ id->W.heap[q]? =w.heap[q]? :=by
   intro q h1 h2;rw[<-hW];exact VH _ _ _ _ _ _ _ _ h1 h2
  obtain⟨hM,hI'⟩:=U0 (b':={b with ch:=ds.map (·.map DL.p)}) hI hbH hmp hmp hfz hC hrow kp.size hWh (.inl rfl) (Zg _) (fun _=>⟨rfl,rfl,hCs2⟩) hWo.1 hWo.2.1 hWo.2.2
  rw[HFof_set H id _ hidl]
  refine⟨_,_,he,⟨[],rfl,.nil⟩,hI' ?_,hM⟩
  refine X9.of_row (b:={b with ch:=ds.map (·.map DL.p)}) hmp (by rw[if_pos rfl];exact hrow) ?_ fun i c hi=> ?_
  ·show(ds.map (·.map DL.p)).length*b.sz<=_
   rw[hCs2,ZU,hdl,hsz];exact hCs
  ·show c.length=b.sz/\∀(j:Nat) (d:DL),c[j]? =some d->∃v,(putCells _root_.id 0 (flatK (fun i:Fin es.length=>Wj C k i) k dk) C)[i*b.sz+j]? =some v/\_
   simp only[Zv,Option.map_eq_some_iff]at hi
   obtain⟨c',hi,rfl⟩:=hi
   have hil:i<es.length:=by rw[<-hdl];exact(Zb.1 hi).1
   have hid:i<dk.size:=by rw[hsz2];exact hil
   have hc':c'=es[(dk[i]!).val]:=by
    rw[heq,Zv,Array.getElem?_toList,Array.getElem?_eq_getElem hid]at hi
    have hg:=getElem!_pos dk i hid
    simp only[hg]
    simpa using hi.symm
   obtain⟨hck,hrep⟩:=hchunk (dk[i]!).val c' (by rw[hc'];exact hget _)
   refine⟨by rw[hsz];simpa using hck,fun j d hj=> ?_⟩
   simp only[Zv,Option.map_eq_some_iff]at hj
   obtain⟨l,hj,rfl⟩:=hj
   have hjk:j<k:=by rw[<-hck];exact(Zb.1 hj).1
   obtain⟨v,hv,hr⟩:=hrep.get j l hj
   rw[TJ hjk]at hv
   have ht:i*k+j<es.length*k:=by
    have:=Zn k (show i+1<=es.length from hil)
    rw[ZJ,Z9]at this;omega
   have k0:0<k:=by omega
   have q1:(i*k+j) / k=i:=by rw[YI,Nat.add_mul_div_right _ _ k0,YD hjk,ZY]
   have q2:(i*k+j)%k=j:=by rw[YI,Nat.add_mul_mod_self_right,Zd hjk]
   have hfg:=flat_get hCs dk hsz2 ht
   simp only[q1,q2]at hfg
   rw[hv]at hfg
   refine⟨v,?_,RepD.mono hM (RepD.p _ _ hr)⟩
   rw[hsz]
   simp only[putCells,Array.getElem?_mapIdx,size_flatK,hsz2]
   rw[Array.getElem?_eq_getElem (by omega),ZS,if_pos ⟨Zr _,by omega⟩]
   simpa using hfg
end Go.Ev
namespace Go.Ev
open Go.RowKit Go.Shelf Go.Lib Go.Sort Go.Proofs
theorem cap_ptr {g:Nat}(hg:Nat.blt g bnd=true){H:List Blk}{id j:Nat}(hne:j≠id){b bj:Blk}(hb:H[id]? =some b)(hj:H[j]? =some bj)(hmp:bj.mp=false){cs:List PL}{rest:List (List DL)}(hch:bj.ch=cs.map DL.p::rest)
  (w:World) (O:BS) (μ:Nat->Nat) (v:Value) (hI:HInv w O μ (Xi H)) (hfz:b.fz=false) (hr:Xo w O μ (Xi H) v (.one (.fn g [.ptr j bj.ver 0 0]))):∃cv:List Value,v=.func (.func g) #[] cv.toArray/\All2 (RepP w fun q=>q=μ id) cv [.ref cs]:=by
 have hjH:Xi H j=some bj:=hj
 have hbH:Xi H id=some b:=hb
 cases hr with |fn _ _ cv hl hc=> ?_
 refine⟨cv,fnV_t hg cv,?_⟩
 match cv,hl with
 |[v0],_=>
  have h0:=hc 0 _ v0 rfl rfl
  refine .cons ?_ .nil
  cases h0 with |ptr _ _ _ _ b2 g2 o hb2 hv hs=> ?_
  rw[hjH]at hb2;cases hb2
  obtain⟨rfl,ho⟩:=hs rfl
  rw[YK]at ho
  subst ho
  have hbo:=hI.blk j bj hjH
  unfold X9 at hbo
  rw[hmp]at hbo
  simp only[Zs,if_false]at hbo
  obtain⟨C,hC,hCs,hCc⟩:=hbo
  have h1:=(hCc 0 (cs.map DL.p) (by rw[hch];rfl)).2
  have shrink:Keeps w (Live O μ (Xi H)) w (fun q=>q=μ id):=⟨Zg _,fun _ _ _=>rfl,fun q hq=>.inl (by rw[hq];exact .inr ⟨id,b,hbH,hfz,rfl⟩)⟩
  have hget:∀(i:Nat) (d:PL),cs[i]? =some d->∃v,C[i]? =some v/\RepP w (fun q=>q=μ id) v d:=by
   intro i d hi
   obtain⟨v,hv,hr⟩:=h1 i (.p d) (by rw[Zv,hi];rfl)
   rw[YK,ZY]at hv
   cases hr with |p _ _ hp=>exact⟨v,hv,hp.keeps shrink⟩
  refine .ref (μ j) (0+0) cs (fun i=>C[i]!) (fun i d hi e=>hne (hI.inj j id bj b hjH hbH e)) (fun i d hi=> ?_) (fun i d hi=> ?_)
  ·obtain⟨v,hv,hr⟩:=hget i d hi
   simp only[World.cell?,hC,ZY]
   rw[hv,getElem!_def,hv]
   rfl
  ·obtain⟨v,hv,hr⟩:=hget i d hi
   rw[getElem!_def,hv]
   exact hr
theorem pdq_CHg {P:Program}{ρ:Ren}(L:SlLaysF0.n14 P ρ){k:Nat}(aE:∀w,(isAgg (ρ.t 24)).run P w=.ok true w)(zE:∀w,(Go.sizeOf (ρ.t 24)).run P w=.ok k w){f g:Nat}(hf:ρ.f 14=f)(eg:Ent P g)(caps:List PL)(arg5:DV)
  (cmpF:List PL->List PL->Int) (H:List Blk) (id:Nat) (b:Blk) (es ds:List (List PL)) (lm:Nat) (hb:H[id]? =some b) (hmp:b.mp=false) (hfz:b.fz=false) (hsz:b.sz=k) (hch:b.ch=es.map (·.map DL.p))
  (h5:∀(w:World) (O:BS) (μ:Nat->Nat) (v:Value),HInv w O μ (Xi H)->Xo w O μ (Xi H) v arg5->∃cv:List Value,v=.func (.func g) #[] cv.toArray/\All2 (RepP w fun q=>q=μ id) cv caps)
  (hlm:lm<4611686018427387904) (hn:es.length<4611686018427387904) (hcmp:∀x∈es,∀y∈es,CC P g (.agg x::.agg y::caps.map .one) (.one (.int .i64 (cmpF x y))))
  (irr:∀x∈es,¬cmpF x x<0) (tr:∀x∈es,∀y∈es,∀z∈es,cmpF x y<0->cmpF y z<0->cmpF x z<0) (ntr:∀x∈es,∀y∈es,∀z∈es,¬cmpF x y<0->¬cmpF y z<0->¬cmpF x z<0)
  (tot:∀x∈es,∀y∈es,¬cmpF x y<0->¬cmpF y x<0->x=y) (hp:ds.Perm es) (hs:ds.Pairwise fun x y=>¬cmpF y x<0):
  CH P f [.one (.own id b.ver 0 es.length),.one (.p (.int .i64 (.ofNat 0))),.one (.p (.int .i64 (.ofNat es.length))),.one (.p (.int .i64 (.ofNat lm))),arg5] H (.tup []) (H.set id {b with ch:=ds.map (·.map DL.p)}):=by
 intro w O μ vs hI hargs
 have hidl:id<H.length:=(Zb.1 hb).1
 have hbH:Xi H id=some b:=hb
 cases hargs with |cons a1 t=> ?_
 cases t with |cons a2 t=> ?_
 cases t with |cons a3 t=> ?_
 cases t with |cons a4 t=> ?_
 cases t with |cons a5 t=> ?_
 cases t
 rename_i v1 v2 v3 v4 v5
 have e2:v2=.int .i64 (.ofNat 0):=by cases a2 with |p _ _ hp=>cases hp;rfl
 have e3:v3=.int .i64 (.ofNat es.length):=by cases a3 with |p _ _ hp=>cases hp;rfl
 have e4:v4=.int .i64 (.ofNat lm):=by cases a4 with |p _ _ hp=>cases hp;rfl
 obtain⟨cv,e5,hcr⟩:=h5 w O μ v5 hI a5
 have hbo:=hI.blk id b hbH
 unfold X9 at hbo
 rw[hmp]at hbo
 simp only[Zs,if_false]at hbo
 obtain⟨C,hC,hCs,hCc⟩:=hbo
 obtain⟨cap,e1⟩:∃cap,v1=.slice (some ⟨μ id,0,none⟩) es.length cap:=by
  cases a1 with |own _ _ _ _ b2 g2 o cap hb2 hv hl hs2=> ?_
  rw[hbH]at hb2;cases hb2
  obtain⟨rfl,C2,T2,hC2,hd⟩:=hs2 rfl
  rcases hd with⟨ho,-,-⟩|⟨-,-,h0⟩
  ·rw[YK]at ho;subst ho;exact⟨cap,rfl⟩
  ·omega
 subst e1;subst e2;subst e3;subst e4;subst e5
 subst hf
 by_cases hne:es=[]
 ·subst hne
  have hds:ds=[]:=by simpa using hp.length_eq
  subst hds
  have hsame:({b with ch:=([]:List (List PL)).map (·.map DL.p)}:Blk)=b:=by
   have :b.ch=[]:=by simpa using hch
   cases b;simp_all
  have hset:H.set id b=H:=by
   obtain⟨h1,h2⟩:=Zb.1 hb
   apply List.ext_getElem (by simp)
   intro i h3 h4
   rw[List.getElem_set]
   split
   ·rename_i e;subst e;exact h2.symm
   ·rfl
  rw[hsame,hset]
  refine(AnyF.pdqsortCmpFunc_none L (some ⟨μ id,0,none⟩) cap lm (.func (.func g) #[] cv.toArray) w).mono fun e w' ⟨he,hw⟩=> ?_
  subst hw
  exact⟨_,μ,he,⟨[],rfl,.nil⟩,hI,Mono.refl ..⟩
 ·have hpos:0<es.length:=List.length_pos_iff.2 hne
  haveI:Inhabited (Fin es.length):=⟨⟨0,hpos⟩⟩
  have hlenb:b.ch.length=es.length:=by rw[hch];simp
  rw[hlenb,hsz]at hCs
  have hchunk:∀(i:Nat) (c:List PL),es[i]? =some c->c.length=k/\All2 (RepP w (Live O μ (Xi H))) (Wj C k i) c:=by
   intro i c hi
   have hi':i<es.length:=(Zb.1 hi).1
   have h1:=hCc i (c.map DL.p) (by rw[hch,Zv,hi];rfl)
   rw[hsz]at h1
   have hck:c.length=k:=by simpa using h1.1
   refine⟨hck,All2.Vk (by rw[TI hCs hi',hck]) fun j v d hv hd=> ?_⟩
   have hj:j<k:=by rw[<-hck];exact(Zb.1 hd).1
   rw[TJ hj]at hv
   obtain⟨v',hv',hr⟩:=h1.2 j (.p d) (by rw[Zv,hd];rfl)
   rw[hv]at hv';cases hv'
   cases hr with |p _ _ hp=>exact hp
  have hget:∀i:Fin es.length,es[i.val]? =some es[i.val]:=fun i=>Zf i.isLt
  have hkk:∀i:Fin es.length,(Wj C k i).length=k:=fun i=>TI hCs i.isLt
  have h1c:∀i:Fin es.length,∀v∈Wj C k i,v.oneCell'=true:=by
   intro i v hv
   obtain⟨j,hj⟩:=Z2.1 hv
   have ha:=(hchunk i _ (hget i)).2
   have hjl:j<es[i.val].length:=by rw[<-ha.length];exact(Zb.1 hj).1
   obtain⟨x,hx,hr⟩:=ha.get j _ (Zf hjl)
   rw[hj]at hx;cases hx
   exact hr.one
  let d0:Array (Fin es.length):=Array.ofFn fun i=>i
  have hd0:d0.size=es.length:=by simp[d0]
  have hd0g:∀i (hi:i<es.length),d0[i]! =⟨i,hi⟩:=by
   intro i hi
   rw[getElem!_pos d0 i (by rw[hd0];exact hi)]
   simp[d0]
  have hH:HoldsK (fun i:Fin es.length=>Wj C k i) k w (μ id) 0 d0:=by
   intro j hj
   rw[size_flatK,hd0]at hj
   have hf:=flat_get hCs d0 hd0 hj
   obtain⟨q1,q2,q3⟩:=flat_div hj
   rw[hd0g _ q1]at hf
   rw[q3]at hf
   have hjC:j<C.size:=by omega
   refine⟨?_,?_⟩
   ·simp only[World.cell?,hC,ZY]
    simpa using hf.symm
   ·simp[World.frozen?,hC]
  have hlt:∀q,Live O μ (Xi H) q->q<w.heap.size:=by
   rintro q (hq|⟨i,blk,h1,_,rfl⟩)
   ·exact hI.lt q hq
   ·exact hI.lt_size h1
  have hlive:Live O μ (Xi H) (μ id):=.inr ⟨id,b,hbH,hfz,rfl⟩
  have keepW:∀(m:Nat) (dk:Array (Fin es.length)) (os:Array Obj),Keeps w (Live O μ (Xi H)) (sortWorldK (fun i:Fin es.length=>Wj C k i) k w (μ id) 0 m dk os) (Live O μ (Xi H)):=by
   intro m dk os
   exact⟨size_sortWorldK_c _ _ _ _ _ _ _ _,fun q hq hl=>VH _ _ _ _ _ _ _ _ hq fun e=>hl (e▸hlive),fun q hq=>.inl hq⟩
  let cf:Fin es.length->Fin es.length->Int:=fun i j=>cmpF es[i.val] es[j.val]
  have hmem:∀i:Fin es.length,es[i.val]∈es:=fun i=>YP i.isLt
  have hO:SWO (ltOf cf):=by
   refine⟨fun x=> ?_,fun x y z h1 h2=> ?_,fun x y z h1 h2=> ?_⟩
   ·simp only[ltOf,cf,decide_eq_false_iff_not];exact irr _ (hmem x)
   ·simp only[ltOf,cf,decide_eq_true_eq]at *;exact tr _ (hmem x) _ (hmem y) _ (hmem z) h1 h2
   ·simp only[ltOf,cf,decide_eq_false_iff_not]at *;exact ntr _ (hmem x) _ (hmem y) _ (hmem z) h1 h2
  have keepL:∀(m:Nat) (dk:Array (Fin es.length)) (os:Array Obj),Keeps w (fun q=>q=μ id) (sortWorldK (fun i:Fin es.length=>Wj C k i) k w (μ id) 0 m dk os) (fun q=>q=μ id):=
   fun m dk os=>⟨size_sortWorldK_c _ _ _ _ _ _ _ _,fun q hq hl=>VH _ _ _ _ _ _ _ _ hq hl,fun q hq=>.inl hq⟩
  have shrink:Keeps w (Live O μ (Xi H)) w (fun q=>q=μ id):=⟨Zg _,fun _ _ _=>rfl,fun q hq=>.inl (by rw[hq];exact hlive)⟩
  have hcl:CmpLays P g cv.toArray (fun i:Fin es.length=>Wj C k i) k cf (μ id) 0 d0.size w:=by
   intro m os dk hdk x y
   have kp:=keepL m dk os
   refine cmp_lays (L:=fun q=>q=μ id) (hcmp _ (hmem x) _ (hmem y)) (fun q hq=>ZQ (by rw[hq];exact hI.lt_size hbH) kp.size) ?_ ?_ ?_
   ·exact((hchunk x _ (hget x)).2).imp fun _ _ h=>(h.keeps shrink).keeps kp
   ·exact((hchunk y _ (hget y)).2).imp fun _ _ h=>(h.keeps shrink).keeps kp
   ·exact hcr.imp fun _ _ h=>h.keeps kp
  have hblk:μ id<w.heap.size:=hI.lt_size hbH
  have hmain:=AnyQ.pdqsortCmpFunc_all L k aE zE (fun i:Fin es.length=>Wj C k i) cf g cv.toArray hO (μ id) 0 cap d0 w eg hcl ⟨hkk,h1c,hH,hblk⟩ (es.length+1) 0 es.length lm d0 w (by omega) rfl (SWK.start hH) (Zr _) (by rw[hd0];exact Zg _) (by rw[hd0];exact hn) hlm (Or.inl rfl)
  rw[hd0]at hmain
  refine hmain.mono fun e w' ⟨he,hsw⟩=> ?_
  clear hmain
  obtain⟨hperm,hsort⟩:=pdq_sorts (ltOf cf) hO d0 0 es.length lm true true (Zr _) (by rw[hd0];exact Zg _) (Or.inl rfl)
  obtain⟨m,os,rfl⟩:=hsw
  generalize pdq (ltOf cf) d0 0 es.length lm true true=dk at hperm hsort
  obtain⟨hsz1,-,hperm⟩:=hperm
  have hsz2:dk.size=es.length:=by rw[hsz1,hd0]
  have x1:dk.extract 0 es.length=dk:=Ts dk hsz2
  have x2:d0.extract 0 es.length=d0:=Ts d0 hd0
  rw[x1,x2]at hperm
  have hd0m:d0.toList.map (fun i=>es[i.val])=es:=by
   apply List.ext_getElem (by simp[hd0])
   intro i h1 h2
   simp[d0]
  have heq:ds=dk.toList.map fun i=>es[i.val]:=by
   have hp2:(dk.toList.map fun i=>es[i.val]).Perm es:=by
    have:=hperm.map fun i:Fin es.length=>es[i.val]
    rwa[hd0m]at this
   refine List.Perm.eq_of_pairwise (le:=fun x y=>¬cmpF y x<0) (fun x y hx hy h1 h2=>tot x (hp.mem_iff.1 hx) y (hp2.mem_iff.1 hy) h2 h1) hs ?_ (hp.trans hp2.symm)
   rw[List.pairwise_map,List.pairwise_iff_getElem]
   intro i j hi hj hij
   have:=hsort i j (Zr _) hij (by rw[<-hsz2];simpa using hj)
   rw[getElem!_pos dk i (by simpa using hi),getElem!_pos dk j (by simpa using hj)]at this
   simpa[ltOf,cf]using this
  have hdl:ds.length=es.length:=hp.length_eq
  have kp:=keepW m dk os
  have hrow:=sortWorld_row (fun i:Fin es.length=>Wj C k i) k w (μ id) m dk os hC
  have hCs2:(putCells _root_.id 0 (flatK (fun i:Fin es.length=>Wj C k i) k dk) C).size=C.size:=by simp[putCells]
  generalize hW:sortWorldK (fun i:Fin es.length=>Wj C k i) k w (μ id) 0 m dk os=W at hrow kp
  have hWo:W.os=w.os/\W.tape=w.tape/\W.output=w.output:=by rw[<-hW];exact⟨rfl,rfl,rfl⟩
  have hWh:∀q,q<w.heap.size->q≠μ id->W.heap[q]? =w.heap[q]? :=by
   intro q h1 h2;rw[<-hW];exact VH _ _ _ _ _ _ _ _ h1 h2
  obtain⟨hM,hI'⟩:=U0 (b':={b with ch:=ds.map (·.map DL.p)}) hI hbH hmp hmp hfz hC hrow kp.size hWh (.inl rfl) (Zg _) (fun _=>⟨rfl,rfl,hCs2⟩) hWo.1 hWo.2.1 hWo.2.2
  rw[HFof_set H id _ hidl]
  refine⟨_,_,he,⟨[],rfl,.nil⟩,hI' ?_,hM⟩
  refine X9.of_row (b:={b with ch:=ds.map (·.map DL.p)}) hmp (by rw[if_pos rfl];exact hrow) ?_ fun i c hi=> ?_
  ·show(ds.map (·.map DL.p)).length*b.sz<=_
   rw[hCs2,ZU,hdl,hsz];exact hCs
  ·show c.length=b.sz/\∀(j:Nat) (d:DL),c[j]? =some d->∃v,(putCells _root_.id 0 (flatK (fun i:Fin es.length=>Wj C k i) k dk) C)[i*b.sz+j]? =some v/\_
   simp only[Zv,Option.map_eq_some_iff]at hi
   obtain⟨c',hi,rfl⟩:=hi
   have hil:i<es.length:=by rw[<-hdl];exact(Zb.1 hi).1
   have hid:i<dk.size:=by rw[hsz2];exact hil
   have hc':c'=es[(dk[i]!).val]:=by
    rw[heq,Zv,Array.getElem?_toList,Array.getElem?_eq_getElem hid]at hi
    have hg:=getElem!_pos dk i hid
    simp only[hg]
    simpa using hi.symm
   obtain⟨hck,hrep⟩:=hchunk (dk[i]!).val c' (by rw[hc'];exact hget _)
   refine⟨by rw[hsz];simpa using hck,fun j d hj=> ?_⟩
   simp only[Zv,Option.map_eq_some_iff]at hj
   obtain⟨l,hj,rfl⟩:=hj
   have hjk:j<k:=by rw[<-hck];exact(Zb.1 hj).1
   obtain⟨v,hv,hr⟩:=hrep.get j l hj
   rw[TJ hjk]at hv
   have ht:i*k+j<es.length*k:=by
    have:=Zn k (show i+1<=es.length from hil)
    rw[ZJ,Z9]at this;omega
   have k0:0<k:=by omega
   have q1:(i*k+j) / k=i:=by rw[YI,Nat.add_mul_div_right _ _ k0,YD hjk,ZY]
   have q2:(i*k+j)%k=j:=by rw[YI,Nat.add_mul_mod_self_right,Zd hjk]
   have hfg:=flat_get hCs dk hsz2 ht
   simp only[q1,q2]at hfg
   rw[hv]at hfg
   refine⟨v,?_,RepD.mono hM (RepD.p _ _ hr)⟩
   rw[hsz]
   simp only[putCells,Array.getElem?_mapIdx,size_flatK,hsz2]
   rw[Array.getElem?_eq_getElem (by omega),ZS,if_pos ⟨Zr _,by omega⟩]
   simpa using hfg
theorem pdq_nil {P:Program}{ρ:Ren}(L:SlLaysF0.n14 P ρ){f:Nat}(hf:ρ.f 14=f)(lm:Nat)(arg5:DV)(H:List Blk):
  CH P f [.one (.p .nilS),.one (.p (.int .i64 (.ofNat 0))),.one (.p (.int .i64 (.ofNat 0))),.one (.p (.int .i64 (.ofNat lm))),arg5] H (.tup []) H:=by
 intro w O μ vs hI hargs
 cases hargs with |cons a1 t=> ?_
 cases t with |cons a2 t=> ?_
 cases t with |cons a3 t=> ?_
 cases t with |cons a4 t=> ?_
 cases t with |cons a5 t=> ?_
 cases t
 rename_i v1 v2 v3 v4 v5
 have e1:v1=.slice none 0 0:=by cases a1 with |p _ _ hp=>cases hp;rfl
 have e2:v2=.int .i64 (.ofNat 0):=by cases a2 with |p _ _ hp=>cases hp;rfl
 have e3:v3=.int .i64 (.ofNat 0):=by cases a3 with |p _ _ hp=>cases hp;rfl
 have e4:v4=.int .i64 (.ofNat lm):=by cases a4 with |p _ _ hp=>cases hp;rfl
 subst e1;subst e2;subst e3;subst e4
 subst hf
 refine(AnyF.pdqsortCmpFunc_none L none 0 lm v5 w).mono fun e w' ⟨he,hw⟩=> ?_
 subst hw
 exact⟨_,μ,he,⟨[],rfl,.nil⟩,hI,Mono.refl ..⟩
end Go.Ev
