/- How abstract values stand for values in a world; what stays when the world grows. -/
import Derived.Test.YtefpgecinlekpaaGreatEvDef
namespace Go.Ev
open Go.RowKit
abbrev BS:=Nat->Prop
def fnV (f:Nat)(cv:List Value):Value:=bif Nat.blt f bnd then .func (.func f) #[] cv.toArray else .func (.func (f-bnd)) cv.toArray #[]
theorem fnV_one (f:Nat)(cv:List Value):(fnV f cv).oneCell'=true:=by
 unfold fnV;cases Nat.blt f bnd<;>rfl
theorem fnV_t {f:Nat}(h:Nat.blt f bnd=true)(cv:List Value):fnV f cv=.func (.func f) #[] cv.toArray:=by
 simp only[fnV,h,cond_true]
theorem fnV_f {f:Nat}(h:Nat.blt f bnd=false)(cv:List Value):fnV f cv=.func (.func (f-bnd)) cv.toArray #[]:=by
 simp only[fnV,h,cond_false]
theorem fnV_shape (f:Nat)(cv:List Value):∃g a b,fnV f cv=.func (.func g) a b:=by
 cases h:Nat.blt f bnd with
 |true=>exact⟨_,_,_,fnV_t h cv⟩
 |false=>exact⟨_,_,_,fnV_f h cv⟩
inductive RepP (w:World)(O:BS):Value->PL->Prop
 |bool (b:Bool):RepP w O (.bool b) (.bool b)
 |int (k:IntKind) (n:Int):RepP w O (.int k n) (.int k n)
 |nilS:RepP w O (.slice none 0 0) .nilS
 |str (s:ByteArray):RepP w O (.string s) (.str (s.data.toList.map UInt8.toNat))
 |junk (v:Value) (h:v.oneCell'=true):RepP w O v .junk
 |fn (f:Nat) (caps:List PL) (cv:List Value) (hl:cv.length=caps.length)
   (hc:∀(i:Nat) (d:PL) (v:Value),caps[i]? =some d->cv[i]? =some v->RepP w O v d):RepP w O (fnV f cv) (.fn f caps)
 |ref (b off:Nat) (cs:List PL) (vals:Nat->Value) (ho:∀(j:Nat) (d:PL),cs[j]? =some d->¬O b)
   (hc:∀(j:Nat) (d:PL),cs[j]? =some d->w.cell? ⟨b,off+j,none⟩=some (vals j))
   (hr:∀(j:Nat) (d:PL),cs[j]? =some d->RepP w O (vals j) d):RepP w O (.pointer (some ⟨b,off,none⟩)) (.ref cs)
 |lst {sp:Option Nat} (b off sz cap:Nat) (es:List (List PL)) (vals:Nat->Nat->Value) (ho:∀(i:Nat) (c:List PL) (j:Nat) (d:PL),es[i]? =some c->c[j]? =some d->¬O b) (hcap:es.length<=cap)
   (hs:∀(i:Nat) (c:List PL),es[i]? =some c->c.length=sz)
   (hc:∀(i:Nat) (c:List PL) (j:Nat) (d:PL),es[i]? =some c->c[j]? =some d->w.cell? ⟨b,off+i*sz+j,none⟩=some (vals i j))
   (hr:∀(i:Nat) (c:List PL) (j:Nat) (d:PL),es[i]? =some c->c[j]? =some d->RepP w O (vals i j) d) (hsp:es=[]\/sp=none):
   RepP w O (.slice (some ⟨b,off,sp⟩) es.length cap) (.lst es)
theorem RepP.one {w:World}{O:BS}{v:Value}{l:PL}(h:RepP w O v l):v.oneCell'=true:=by
 cases h<;>first |rfl|assumption|exact fnV_one _ _
structure Keeps (w:World)(L:BS)(w':World)(L':BS):Prop where
 size:w.heap.size<=w'.heap.size
 keep:∀b,b<w.heap.size->¬L b->w'.heap[b]? =w.heap[b]?
 live:∀b,L' b->L b\/w.heap.size<=b
theorem Keeps.cell {w w':World}{L L':BS}(h:Keeps w L w' L'){b o:Nat}{v:Value}(hb:¬L b)(hc:w.cell? ⟨b,o,none⟩=some v):w'.cell? ⟨b,o,none⟩=some v:=
 (World.cell?_of_block (h.keep b (World.block_lt_of_cell? w _ hc) hb)).trans hc
theorem Keeps.out {w w':World}{L L':BS}(h:Keeps w L w' L'){b o:Nat}{v:Value}(hb:¬L b)(hc:w.cell? ⟨b,o,none⟩=some v):¬L' b:=by
 intro hl
 have:=World.block_lt_of_cell? w _ hc
 rcases h.live b hl with h1|h1
 ·exact hb h1
 ·simp at this;omega
theorem Keeps.refl (w:World)(L:BS):Keeps w L w L:=⟨Zg _,fun _ _ _=>rfl,fun _ h=>.inl h⟩
theorem Keeps.trans {w w' w'':World}{L L' L'':BS}(h:Keeps w L w' L')(k:Keeps w' L' w'' L''):Keeps w L w'' L'':=by
 refine⟨ZC h.size k.size,fun b hb hl=> ?_,fun b hl=> ?_⟩
 ·refine(k.keep b (ZQ hb h.size) fun hl'=> ?_).trans (h.keep b hb hl)
  rcases h.live b hl' with h1|h1
  ·exact hl h1
  ·omega
 ·rcases k.live b hl with h1|h1
  ·exact h.live b h1
  ·exact .inr (ZC h.size h1)
theorem RepP.keeps {w w':World}{L L':BS}(k:Keeps w L w' L'){v:Value}{l:PL}(h:RepP w L v l):RepP w' L' v l:=by
 induction h with
 |bool b=>exact .bool b
 |int a n=>exact .int a n
 |nilS=>exact .nilS
 |str s=>exact .str s
 |junk v h=>exact .junk v h
 |fn f caps cv hl hc ih=>exact .fn f caps cv hl ih
 |ref b off cs vals ho hc hr ih=>
  exact .ref b off cs vals (fun j d hj=>k.out (ho j d hj) (hc j d hj)) (fun j d hj=>k.cell (ho j d hj) (hc j d hj)) ih
 |lst b off sz cap es vals ho hcap hs hc hr hsp ih=>
  exact .lst b off sz cap es vals (fun i c j d hi hj=>k.out (ho i c j d hi hj) (hc i c j d hi hj)) hcap hs
   (fun i c j d hi hj=>k.cell (ho i c j d hi hj) (hc i c j d hi hj)) ih hsp
def Live (O:BS)(μ:Nat->Nat)(h:HF):BS:=fun b=>O b\/∃id blk,h id=some blk/\blk.fz=false/\μ id=b
inductive RepD (w:World)(O:BS)(μ:Nat->Nat)(h:HF):Value->DL->Prop
 |p (v:Value) (l:PL) (hp:RepP w (Live O μ h) v l):RepD w O μ h v (.p l)
 |own (id ver off len:Nat) (b:Blk) (g o cap:Nat) (hb:h id=some b) (hv:ver<=b.ver) (hl:len<=cap)
   (hs:ver=b.ver->g=μ id/\∃(C:Array Value) (T:TypeId),w.heap[μ id]? =some (.cells C T (0,0))/\
    ((o=off*b.sz/\(off+cap)*b.sz=C.size/\cap<=maxLen)\/(len=0/\cap=0/\0<off))):RepD w O μ h (.slice (some ⟨g,o,none⟩) len cap) (.own id ver off len)
 |ptr (id ver i off:Nat) (b:Blk) (g o:Nat) (hb:h id=some b) (hv:ver<=b.ver)
   (hs:ver=b.ver->g=μ id/\o=i*b.sz+off):RepD w O μ h (.pointer (some ⟨g,o,none⟩)) (.ptr id ver i off)
 |fn (f:Nat) (caps:List DL) (cv:List Value) (hl:cv.length=caps.length)
   (hc:∀(i:Nat) (d:DL) (v:Value),caps[i]? =some d->cv[i]? =some v->RepD w O μ h v d):RepD w O μ h (fnV f cv) (.fn f caps)
 |mp (id:Nat) (b:Blk) (hb:h id=some b) (hm:b.mp=true):RepD w O μ h (.map (some (μ id))) (.mp id)
theorem RepD.one {w:World}{O:BS}{μ:Nat->Nat}{h:HF}{v:Value}{l:DL}(r:RepD w O μ h v l):v.oneCell'=true:=by
 cases r with
 |p _ _ hp=>exact hp.one
 |own=>rfl
 |ptr=>rfl
 |fn f _ cv _ _=>exact fnV_one f cv
 |mp _ _ _ _=>rfl
inductive All2 {α β:Type}(R:α->β->Prop):List α->List β->Prop
 |nil:All2 R [] []
 |cons {x:α} {y:β} {xs:List α} {ys:List β} (h:R x y) (t:All2 R xs ys):All2 R (x::xs) (y::ys)
def WS (w:World)(O:BS)(μ:Nat->Nat)(h:HF)(v:Value):DV->Prop
 | .one l=>RepD w O μ h v l
 | .agg cs=>∃xs:List Value,v=.agg xs.toArray/\All2 (RepD w O μ h) xs cs
 | .tup ds=>ds=[]/\v=.tuple #[]
def Xo (w:World)(O:BS)(μ:Nat->Nat)(h:HF)(v:Value):DV->Prop
 | .tup ds=>∃xs:List Value,v=.tuple xs.toArray/\All2 (WS w O μ h) xs ds
 |d=>WS w O μ h v d
def ValOf (agg:Bool)(v:Value)(xs:List Value):Prop:=if agg then v=.agg xs.toArray else xs=[v]
def Born (es:List MapEntry)(clk:Nat):Prop:=es.Pairwise (fun a b=>a.born≠b.born)/\∀e∈es,e.born<clk
def Dull (o:Obj):Prop:=(∀C T z,o≠.cells C T z)/\∀es clk,o≠.map es clk
def X9 (w:World)(O:BS)(μ:Nat->Nat)(h:HF)(id:Nat)(b:Blk):Prop:=
 if b.mp then if Nat.beq b.ty 2 then∃o,w.heap[μ id]? =some o/\Dull o else∃(es:Array MapEntry) (clk:Nat),w.heap[μ id]? =some (.map es clk)/\(b.ver=0/\Born es.toList clk)/\
   All2 (fun(e:MapEntry) (c:List DL)=>∃kv xv:List Value,e.key=.agg kv.toArray/\ValOf (Nat.beq b.ty 1) e.val xv/\kv.length=b.sz/\All2 (RepD w O μ h) (kv++xv) c) es.toList b.ch
 else∃(C:Array Value),w.heap[μ id]? =some (.cells C b.ty (0,0))/\b.ch.length*b.sz<=C.size/\
  ∀(i:Nat) (c:List DL),b.ch[i]? =some c->c.length=b.sz/\∀(j:Nat) (d:DL),c[j]? =some d->∃v,C[i*b.sz+j]? =some v/\RepD w O μ h v d
structure HInv (w:World)(O:BS)(μ:Nat->Nat)(h:HF):Prop where
 blk:∀id b,h id=some b->X9 w O μ h id b
 inj:∀id id' b b',h id=some b->h id'=some b'->μ id=μ id'->id=id'
 disj:∀id b,h id=some b->¬O (μ id)
 lt:∀b,O b->b<w.heap.size
structure Mono (O:BS)(w:World)(μ:Nat->Nat)(h:HF)(w':World)(μ':Nat->Nat)(h':HF):Prop where
 os:w'.os=w.os
 tape:w'.tape=w.tape
 output:w'.output=w.output
 keeps:Keeps w (Live O μ h) w' (Live O μ' h')
 okeep:∀b,O b->w'.heap[b]? =w.heap[b]?
 ids:∀id b,h id=some b->∃b',h' id=some b'/\b.ver<=b'.ver/\b'.mp=b.mp/\
  (b'.ver=b.ver->μ' id=μ id/\b'.sz=b.sz/\∀(C:Array Value) (T:TypeId),w.heap[μ id]? =some (.cells C T (0,0))->∃C':Array Value,w'.heap[μ id]? =some (.cells C' T (0,0))/\C'.size=C.size)
 maps:∀id b,h id=some b->b.mp=true->μ' id=μ id
theorem Mono.refl (O:BS)(w:World)(μ:Nat->Nat)(h:HF):Mono O w μ h w μ h:=
 ⟨rfl,rfl,rfl,.refl _ _,fun _ _=>rfl,fun _ b hb=>⟨b,hb,Zg _,rfl,fun _=>⟨rfl,rfl,fun C _ hc=>⟨C,hc,rfl⟩⟩⟩,fun _ _ _ _=>rfl⟩
theorem Mono.trans {O:BS}{w w' w'':World}{μ μ' μ'':Nat->Nat}{h h' h'':HF}(a:Mono O w μ h w' μ' h')(b:Mono O w' μ' h' w'' μ'' h''):Mono O w μ h w'' μ'' h'':=by
 refine⟨b.os.trans a.os,b.tape.trans a.tape,b.output.trans a.output,a.keeps.trans b.keeps,fun x hx=>(b.okeep x hx).trans (a.okeep x hx),fun id x hx=> ?_,fun id x hx hm=> ?_⟩
 ·obtain⟨y,hy,hv,hm,hs⟩:=a.ids id x hx
  obtain⟨z,hz,hv',hm',hs'⟩:=b.ids id y hy
  refine⟨z,hz,ZC hv hv',hm'.trans hm,fun e=> ?_⟩
  have e1:y.ver=x.ver:=by omega
  have e2:z.ver=y.ver:=by omega
  obtain⟨m1,s1,c1⟩:=hs e1
  obtain⟨m2,s2,c2⟩:=hs' e2
  refine⟨m2.trans m1,s2.trans s1,fun C T hC=> ?_⟩
  obtain⟨C',hC',hz'⟩:=c1 C T hC
  rw[<-m1]at hC'
  obtain⟨C'',hC'',hz''⟩:=c2 C' T hC'
  rw[m1]at hC''
  exact⟨C'',hC'',hz''.trans hz'⟩
 ·obtain⟨y,hy,_,hm',_⟩:=a.ids id x hx
  exact(b.maps id y hy (hm'.trans hm)).trans (a.maps id x hx hm)
theorem RepD.mono {O:BS}{w w':World}{μ μ':Nat->Nat}{h h':HF}(m:Mono O w μ h w' μ' h'){v:Value}{l:DL}(r:RepD w O μ h v l):RepD w' O μ' h' v l:=by
 induction r with
 |p v l hp=>exact .p v l (hp.keeps m.keeps)
 |own id ver off len b g o cap hb hv hl hs=>
  obtain⟨b',hb',hv',hm,hsame⟩:=m.ids id b hb
  refine .own id ver off len b' g o cap hb' (ZC hv hv') hl fun e=> ?_
  have e1:b'.ver=b.ver:=by omega
  obtain⟨m1,s1,c1⟩:=hsame e1
  obtain⟨hg,C,T,hC,hd⟩:=hs (by omega)
  obtain⟨C',hC',hz⟩:=c1 C T hC
  refine⟨by rw[m1];exact hg,C',T,by rw[m1];exact hC',?_⟩
  rw[s1,hz];exact hd
 |ptr id ver i off b g o hb hv hs=>
  obtain⟨b',hb',hv',hm,hsame⟩:=m.ids id b hb
  refine .ptr id ver i off b' g o hb' (ZC hv hv') fun e=> ?_
  obtain⟨m1,s1,_⟩:=hsame (by omega)
  rw[m1,s1];exact hs (by omega)
 |fn f caps cv hl hc ih=>exact .fn f caps cv hl ih
 |mp id b hb hm=>
  obtain⟨b',hb',_,hm',_⟩:=m.ids id b hb
  rw[<-m.maps id b hb hm]
  exact .mp id b' hb' (hm'.trans hm)
theorem All2.imp {α β:Type}{R S:α->β->Prop}{xs:List α}{ys:List β}(f:∀x y,R x y->S x y)(h:All2 R xs ys):All2 S xs ys:=by
 induction h with
 |nil=>exact .nil
 |cons hx _ ih=>exact .cons (f _ _ hx) ih
theorem All2.length {α β:Type}{R:α->β->Prop}{xs:List α}{ys:List β}(h:All2 R xs ys):xs.length=ys.length:=by
 induction h with
 |nil=>rfl
 |cons _ _ ih=>simp[ih]
theorem All2.get {α β:Type}{R:α->β->Prop}{xs:List α}{ys:List β}(h:All2 R xs ys):∀(i:Nat) (y:β),ys[i]? =some y->∃x,xs[i]? =some x/\R x y:=by
 induction h with
 |nil=>intro i y hy;simp at hy
 |cons hx _ ih=>
  intro i y hy
  cases i with
  |zero=>simp at hy;subst hy;exact⟨_,rfl,hx⟩
  |succ i=>simpa using ih i y (by simpa using hy)
theorem All2.Vk {α β:Type}{R:α->β->Prop}:∀{xs:List α} {ys:List β},xs.length=ys.length->(∀(i:Nat) (x:α) (y:β),xs[i]? =some x->ys[i]? =some y->R x y)->All2 R xs ys
 |[],[],_,_=>.nil
 |[],_::_,h,_=>by simp at h
 |_::_,[],h,_=>by simp at h
 |x::xs,y::ys,h,f=>.cons (f 0 x y rfl rfl) (All2.Vk (by simpa using h) fun i a b ha hb=>f (i+1) a b (by simpa using ha) (by simpa using hb))
theorem All2.append {α β:Type}{R:α->β->Prop}{xs xs':List α}{ys ys':List β}(h:All2 R xs ys)(k:All2 R xs' ys'):All2 R (xs++xs') (ys++ys'):=by
 induction h with
 |nil=>exact k
 |cons hx _ ih=>exact .cons hx ih
theorem All2.take {α β:Type}{R:α->β->Prop}{xs:List α}{ys:List β}(h:All2 R xs ys)(n:Nat):All2 R (xs.take n) (ys.take n):=by
 induction h generalizing n with
 |nil=>simp;exact .nil
 |cons hx _ ih=>cases n with
  |zero=>exact .nil
  |succ n=>exact .cons hx (ih n)
theorem All2.drop {α β:Type}{R:α->β->Prop}{xs:List α}{ys:List β}(h:All2 R xs ys)(n:Nat):All2 R (xs.drop n) (ys.drop n):=by
 induction h generalizing n with
 |nil=>simp;exact .nil
 |cons hx t ih=>cases n with
  |zero=>exact .cons hx t
  |succ n=>simpa using ih n
theorem WS.mono {O:BS}{w w':World}{μ μ':Nat->Nat}{h h':HF}(m:Mono O w μ h w' μ' h'){v:Value}{d:DV}(r:WS w O μ h v d):WS w' O μ' h' v d:=by
 cases d with
 |one l=>exact RepD.mono m r
 |agg cs=>obtain⟨xs,hv,ha⟩:=r;exact⟨xs,hv,ha.imp fun _ _=>RepD.mono m⟩
 |tup ds=>exact r
theorem Xo.mono {O:BS}{w w':World}{μ μ':Nat->Nat}{h h':HF}(m:Mono O w μ h w' μ' h'){v:Value}{d:DV}(r:Xo w O μ h v d):Xo w' O μ' h' v d:=by
 cases d with
 |one l=>exact WS.mono (d:=.one l) m r
 |agg cs=>exact WS.mono (d:=.agg cs) m r
 |tup ds=>obtain⟨xs,hv,ha⟩:=r;exact⟨xs,hv,ha.imp fun _ _=>WS.mono m⟩
theorem Xo.of1 {w:World}{O:BS}{μ:Nat->Nat}{h:HF}{v:Value}{d:DV}(r:WS w O μ h v d):Xo w O μ h v d:=by
 cases d with
 |one l=>exact r
 |agg cs=>exact r
 |tup ds=>obtain⟨rfl,rfl⟩:=r;exact⟨[],rfl,.nil⟩
theorem Xo.cells {w:World}{O:BS}{μ:Nat->Nat}{h:HF}{v:Value}{d:DV}{cs:List DL}(r:Xo w O μ h v d)(hc:d.cells=some cs):All2 (RepD w O μ h) v.cells.toList cs:=by
 cases d with
 |one l=>
  simp[DV.cells]at hc;subst hc
  have h1:=RepD.one r
  have :v.cells=#[v]:=by cases v<;>first |rfl|simp[Value.oneCell']at h1
  rw[this];exact .cons r .nil
 |agg ds=>
  simp[DV.cells]at hc;subst hc
  obtain⟨xs,rfl,ha⟩:=r
  exact ha
 |tup ds=>simp[DV.cells]at hc
theorem Wx (a b:IntKind):keq a b=true↔a=b:=by cases a<;>cases b<;>decide
theorem eqF_eq (a b:Int):eqF a b=(a==b):=by
 rw[Bool.eq_iff_iff,beq_iff_eq]
 cases a<;>cases b<;>simp[eqF]<;>omega
theorem ltF_eq (a b:Int):ltF a b=decide (a<b):=by
 rw[Bool.eq_iff_iff,decide_eq_true_iff]
 cases a<;>cases b<;>simp[ltF,Nat.blt,Nat.ble_eq]<;>omega
theorem leF_eq (a b:Int):leF a b=decide (a<=b):=by
 rw[leF,ltF_eq,Bool.eq_iff_iff];simp
theorem kbits_eq (k:IntKind):kbits k=k.bits:=by cases k<;>rfl
theorem TW (k:IntKind):Tm k=2^k.bits:=by cases k<;>rfl
theorem ksigned_eq (k:IntKind):ksigned k=k.signed:=by cases k<;>rfl
theorem kmod_half (k:IntKind):Tm k / 2=2^(k.bits-1):=by cases k<;>rfl
theorem kmod_pos (k:IntKind):0<Tm k:=by cases k<;>decide
theorem resF_lt (k:IntKind)(n:Int):X7 k n<Tm k:=by
 have:=kmod_pos k
 cases n with
 |ofNat m=>exact ZN _ this
 |negSucc m=>simp only[X7];have:=ZN m this;omega
theorem resF_eq (k:IntKind)(n:Int):(X7 k n:Int)=n%(2^k.bits:Int):=by
 have hp:=kmod_pos k
 have hk:(2^k.bits:Int)=(Tm k:Int):=by rw[TW];simp
 rw[hk]
 cases n with
 |ofNat m=>simp[X7]
 |negSucc m=>
  simp only[X7]
  have h1:=ZN m hp
  have h2:=Ym m (Tm k)
  generalize Tm k=M at *
  rw[Int.negSucc_emod _ (by omega)]
  have h3:(m:Int)%(M:Int)=((m%M:Nat):Int):=by simp
  rw[h3]
  omega
theorem signF_eq (k:IntKind)(r:Nat)(h:r<Tm k):VA k r=k.wrap r:=by
 have hm:((r:Int)%(2^k.bits:Int))=r:=by
  have hk:(2^k.bits:Int)=(Tm k:Int):=by rw[TW];simp
  rw[hk];exact Int.emod_eq_of_lt (by omega) (by omega)
 unfold VA IntKind.wrap
 rw[hm,ksigned_eq,kmod_half]
 have hk:((2:Int)^k.bits)=(Tm k:Int):=by rw[TW];simp
 have hh:((2:Int)^(k.bits-1))=((2^(k.bits-1):Nat):Int):=by simp
 simp only[hk,hh]
 cases hs:k.signed
 ·simp
 ·by_cases hb:2^(k.bits-1)<=r
  ·have hb':Nat.ble (2^(k.bits-1)) r=true:=by rw[Nat.ble_eq];exact hb
   have hb2:((r:Int)≥((2^(k.bits-1):Nat):Int)):=by omega
   rw[hb',if_pos (by simp only[Bool.true_and];exact decide_eq_true hb2)]
   show Int.negSucc (Tm k-r-1)=_
   rw[Int.negSucc_eq]
   omega
  ·have hb':Nat.ble (2^(k.bits-1)) r=false:=by
    cases hx:Nat.ble (2^(k.bits-1)) r
    ·rfl
    ·rw[Nat.ble_eq]at hx;exact absurd hx hb
   have hb2:¬((r:Int)≥((2^(k.bits-1):Nat):Int)):=by omega
   rw[hb',if_neg (by simp only[Bool.true_and,decide_eq_true_iff];exact hb2)]
   rfl
theorem wrap_emod (k:IntKind)(n:Int):k.wrap (n%(2^k.bits:Int))=k.wrap n:=by
 unfold IntKind.wrap;simp
theorem U1 (k:IntKind)(n:Int):Xd k n=k.wrap n:=by
 rw[Xd,signF_eq k _ (resF_lt k n),resF_eq,wrap_emod]
theorem shrF_eq (a:Int)(n:Nat):shrF a n=a.fdiv (2^n):=by
 have h2:((2:Int)^n)=((2^n:Nat):Int):=by simp
 have hp:0<2^n:=Nat.pow_pos (by decide)
 rw[h2]
 cases a with
 |ofNat m=>simp only[shrF];cases m<;>simp[Int.fdiv]
 |negSucc m=>
  simp only[shrF]
  generalize 2^n=M at *
  obtain⟨q,rfl⟩:∃q,M=q+1:=⟨M-1,by omega⟩
  rfl
theorem Tf (k:IntKind)(n:Int):(BitVec.ofInt k.bits n).toNat=X7 k n:=by
 have h:=resF_eq k n
 rw[BitVec.toNat_ofInt]
 rw[show((2^k.bits:Nat):Int)=(2^k.bits:Int)by simp,<-h]
 simp
theorem and_eq (k:IntKind)(a b:Int):VA k (Nat.land (X7 k a) (X7 k b))=k.wrap ((BitVec.ofInt k.bits a&&&BitVec.ofInt k.bits b).toNat:Int):=by
 have e:(BitVec.ofInt k.bits a&&&BitVec.ofInt k.bits b).toNat=Nat.land (X7 k a) (X7 k b):=by rw[BitVec.toNat_and,Tf,Tf];rfl
 rw[<-e,signF_eq _ _ (by rw[TW];exact BitVec.isLt _)]
theorem or_eq (k:IntKind)(a b:Int):VA k (Nat.lor (X7 k a) (X7 k b))=k.wrap ((BitVec.ofInt k.bits a|||BitVec.ofInt k.bits b).toNat:Int):=by
 have e:(BitVec.ofInt k.bits a|||BitVec.ofInt k.bits b).toNat=Nat.lor (X7 k a) (X7 k b):=by rw[BitVec.toNat_or,Tf,Tf];rfl
 rw[<-e,signF_eq _ _ (by rw[TW];exact BitVec.isLt _)]
theorem xor_eq (k:IntKind)(a b:Int):VA k (Nat.xor (X7 k a) (X7 k b))=k.wrap ((BitVec.ofInt k.bits a^^^BitVec.ofInt k.bits b).toNat:Int):=by
 have e:(BitVec.ofInt k.bits a^^^BitVec.ofInt k.bits b).toNat=Nat.xor (X7 k a) (X7 k b):=by rw[BitVec.toNat_xor,Tf,Tf];rfl
 rw[<-e,signF_eq _ _ (by rw[TW];exact BitVec.isLt _)]
theorem not_toNat (k:IntKind)(b:Int):(~~~ BitVec.ofInt k.bits b).toNat=Nat.xor (Tm k-1) (X7 k b):=by
 rw[<-Tf,TW]
 have :(2^k.bits-1:Nat)=(BitVec.allOnes k.bits).toNat:=by simp
 rw[this]
 show _=((BitVec.allOnes k.bits).toNat^^^(BitVec.ofInt k.bits b).toNat)
 rw[<-BitVec.toNat_xor,BitVec.allOnes_xor]
theorem andNot_eq (k:IntKind)(a b:Int):VA k (Nat.land (X7 k a) (Nat.xor (Tm k-1) (X7 k b)))=k.wrap ((BitVec.ofInt k.bits a&&&~~~ BitVec.ofInt k.bits b).toNat:Int):=by
 have e:(BitVec.ofInt k.bits a&&&~~~ BitVec.ofInt k.bits b).toNat=Nat.land (X7 k a) (Nat.xor (Tm k-1) (X7 k b)):=by rw[BitVec.toNat_and,Tf,not_toNat];rfl
 rw[<-e,signF_eq _ _ (by rw[TW];exact BitVec.isLt _)]
theorem unxor_eq (k:IntKind)(n:Int):VA k (Nat.xor (Tm k-1) (X7 k n))=k.wrap ((BitVec.ofInt k.bits (if k.signed then -1 else k.max)^^^BitVec.ofInt k.bits n).toNat:Int):=by
 have e:X7 k (if k.signed then -1 else k.max)=Tm k-1:=by cases k<;>rfl
 rw[<-e,xor_eq]
end Go.Ev
