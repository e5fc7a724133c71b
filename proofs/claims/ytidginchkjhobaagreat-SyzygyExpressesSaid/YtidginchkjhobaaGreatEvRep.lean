/- How abstract values stand for values in a world; what stays when the world grows. -/
import Derived.Test.YtidginchkjhobaaGreatEvDef
namespace Go.Ev
open Go.RowKit
abbrev BS:=Nat->Prop
def BI (f:Nat)(cv:List Value):Value:=bif Nat.blt f bF then .func (.func f) #[] cv.toArray else .func (.func (f-bF)) cv.toArray #[]
theorem zo (f)(a):(BI f a).oneCell'=true:=by
 unfold BI;cases Nat.blt f bF<;>rfl
theorem oc {f}(h:Nat.blt f bF=true)(a):BI f a=.func (.func f) #[] a.toArray:=by grind [BI]
theorem Iu {f}(h:Nat.blt f bF=false)(a):BI f a=.func (.func (f-bF)) a.toArray #[]:=by grind [BI]
theorem od (f)(c):∃g a b,BI f c=.func (.func g) a b:=by
 cases h:Nat.blt f bF with
 |true=>simp_all [oc]
 |false=>simp_all [Iu]
inductive Ws (w:World)(O:BS):Value->PL->Prop
 |bool (b:Bool):Ws w O (.bool b) (.bool b)
 |int (k:IntKind) (n:Int):Ws w O (.int k n) (.int k n)
 |Xp:Ws w O (.slice none 0 0) .Xp
 |str (s:ByteArray):Ws w O (.string s) (.str (s.data.toList.map UInt8.toNat))
 |Qx (v:Value) (h:v.oneCell'=true):Ws w O v .Qx
 |fn (f:Nat) (caps:N') (cv:List Value) (hl:cv.length=caps.length)
   (hc:∀(i:Nat) (d:PL) (v:Value),caps[i]? =some d->cv[i]? =some v->Ws w O v d):Ws w O (BI f cv) (.fn f caps)
 |ref (b off:Nat) (cs:N') (vals:Nat->Value) (ho:∀(j:Nat) (d:PL),cs[j]? =some d->¬O b)
   (hc:∀(j:Nat) (d:PL),cs[j]? =some d->w.cell? ⟨b,off+j,none⟩=some (vals j))
   (hr:∀(j:Nat) (d:PL),cs[j]? =some d->Ws w O (vals j) d):Ws w O (.pointer (some ⟨b,off,none⟩)) (.ref cs)
 |Xl {sp:Option Nat} (b off sz cap:Nat) (es:Z') (vals:Nat->Nat->Value) (ho:∀(i:Nat) (c:N') (j:Nat) (d:PL),es[i]? =some c->c[j]? =some d->¬O b) (hcap:es.length<=cap)
   (hs:∀(i:Nat) (c:N'),es[i]? =some c->c.length=sz)
   (hc:∀(i:Nat) (c:N') (j:Nat) (d:PL),es[i]? =some c->c[j]? =some d->w.cell? ⟨b,off+i*sz+j,none⟩=some (vals i j))
   (hr:∀(i:Nat) (c:N') (j:Nat) (d:PL),es[i]? =some c->c[j]? =some d->Ws w O (vals i j) d) (hsp:es=[]\/sp=none):
   Ws w O (.slice (some ⟨b,off,sp⟩) es.length cap) (.Xl es)
theorem Ws.one {w}{O}{v}{l}(h:Ws w O v l):v.oneCell'=true:=by
 cases h<;>first |rfl|assumption|exact zo _ _
structure RS (w:World)(L:BS)(w':World)(L':BS):Prop where
 size:w.heap.size<=w'.heap.size
 VS:∀b,b<w.heap.size->¬L b->w'.heap[b]? =w.heap[b]?
 live:∀b,L' b->L b\/w.heap.size<=b
theorem RS.cell {w c}{L d}(h:RS w L c d){b o}{v}(e:¬L b)(a:w.cell? ⟨b,o,none⟩=some v):c.cell? ⟨b,o,none⟩=some v:=
 (World.cell?_of_block (h.VS b (World.block_lt_of_cell? w _ a) e)).trans a
theorem RS.out {w f}{L a}(h:RS w L f a){b o}{v}(c:¬L b)(d:w.cell? ⟨b,o,none⟩=some v):¬a b:=by
 intro e;have:=World.block_lt_of_cell? w _ d;rcases h.live b e with h1|h1
 ·exact c h1
 ·simp at this;omega
theorem RS.refl (w)(L):RS w L w L:=⟨Zf _,fun _ _ _=>rfl,fun _ h=>.inl h⟩
theorem RS.trans {w i c}{L f a}(h:RS w L i f)(k:RS i f c a):RS w L c a:=by
 refine⟨Zy h.size k.size,fun b g d=> ?_,fun b d=> ?_⟩
 ·refine(k.VS b (ZO g h.size) fun e=> ?_).trans (h.VS b g d);rcases h.live b e with h1|h1
  ·exact d h1
  ·omega
 ·rcases k.live b d with h1|h1
  ·exact h.live b h1
  ·exact .inr (Zy h.size h1)
theorem Ws.keeps {w A}{L z}(k:RS w L A z){v}{l}(h:Ws w L v l):Ws A z v l:=by
 induction h with
 |bool b=>exact .bool b
 |int a n=>exact .int a n
 |Xp=>exact .Xp
 |str s=>exact .str s
 |Qx v h=>exact .Qx v h
 |fn f p C E o u=>exact .fn f p C E u
 |ref b m B g t o F u=>
  exact .ref b m B g (fun j d e=>k.out (t j d e) (o j d e)) (fun j d e=>k.cell (t j d e) (o j d e)) u
 |Xl b m H x D g t q G o F y u=>
  exact .Xl b m H x D g (fun i c j d r e=>k.out (t i c j d r e) (o i c j d r e)) q G
   (fun i c j d r e=>k.cell (t i c j d r e) (o i c j d r e)) u y
def Live (O:BS)(μ:Nat->Nat)(h:HF):BS:=fun b=>O b\/∃id RV,h id=some RV/\RV.fz=false/\μ id=b
inductive XH (w:World)(O:BS)(μ:Nat->Nat)(h:HF):Value->DL->Prop
 |p (v:Value) (l:PL) (hp:Ws w (Live O μ h) v l):XH w O μ h v (.p l)
 |own (id XW off len:Nat) (b:Xx) (g o cap:Nat) (hb:h id=some b) (hv:XW<=b.XW) (hl:len<=cap)
   (hs:XW=b.XW->g=μ id/\∃(C:Array Value) (T:TypeId),w.heap[μ id]? =some (.cells C T (0,0))/\
    ((o=off*b.sz/\(off+cap)*b.sz=C.size/\cap<=maxLen)\/(len=0/\cap=0/\0<off))):XH w O μ h (.slice (some ⟨g,o,none⟩) len cap) (.own id XW off len)
 |ptr (id XW i off:Nat) (b:Xx) (g o:Nat) (hb:h id=some b) (hv:XW<=b.XW)
   (hs:XW=b.XW->g=μ id/\o=i*b.sz+off):XH w O μ h (.pointer (some ⟨g,o,none⟩)) (.ptr id XW i off)
 |fn (f:Nat) (caps:Y') (cv:List Value) (hl:cv.length=caps.length)
   (hc:∀(i:Nat) (d:DL) (v:Value),caps[i]? =some d->cv[i]? =some v->XH w O μ h v d):XH w O μ h (BI f cv) (.fn f caps)
 |mp (id:Nat) (b:Xx) (hb:h id=some b) (hm:b.mp=true):XH w O μ h (.map (some (μ id))) (.mp id)
theorem XH.one {w}{O}{c}{h}{v}{l}(r:XH w O c h v l):v.oneCell'=true:=by
 cases r with
 |p _ _ b=>exact b.one
 |own=>rfl
 |ptr=>rfl
 |fn f _ a _ _=>exact zo f a
 |mp _ _ _ _=>rfl
inductive XE {α β:Type}(R:α->β->Prop):List α->List β->Prop
 |nil:XE R [] []
 |cons {x:α} {y:β} {xs:List α} {ys:List β} (h:R x y) (t:XE R xs ys):XE R (x::xs) (y::ys)
def Ua (w:World)(O:BS)(μ:Nat->Nat)(h:HF)(v:Value):DV->Prop
 | .one l=>XH w O μ h v l
 | .agg cs=>∃xs:List Value,v=.agg xs.toArray/\XE (XH w O μ h) xs cs
 | .Wd ds=>ds=[]/\v=.tuple #[]
def XF (w:World)(O:BS)(μ:Nat->Nat)(h:HF)(v:Value):DV->Prop
 | .Wd ds=>∃xs:List Value,v=.tuple xs.toArray/\XE (Ua w O μ h) xs ds
 |d=>Ua w O μ h v d
def aQ (agg:Bool)(v:Value)(xs:List Value):Prop:=if agg then v=.agg xs.toArray else xs=[v]
def vz (es:List MapEntry)(clk:Nat):Prop:=es.Pairwise (fun a b=>a.born≠b.born)/\∀e∈es,e.born<clk
def mO (o:Obj):Prop:=(∀C T z,o≠.cells C T z)/\∀es clk,o≠.map es clk
def Wx (w:World)(O:BS)(μ:Nat->Nat)(h:HF)(id:Nat)(b:Xx):Prop:=
 if b.mp then if Nat.beq b.ty 2 then∃o,w.heap[μ id]? =some o/\mO o else∃(es:Array MapEntry) (clk:Nat),w.heap[μ id]? =some (.map es clk)/\(b.XW=0/\vz es.toList clk)/\
   XE (fun(e:MapEntry) (c:Y')=>∃kv xv:List Value,e.key=.agg kv.toArray/\aQ (Nat.beq b.ty 1) e.val xv/\kv.length=b.sz/\XE (XH w O μ h) (kv++xv) c) es.toList b.ch
 else∃(C:Array Value),w.heap[μ id]? =some (.cells C b.ty (0,0))/\b.ch.length*b.sz<=C.size/\
  ∀(i:Nat) (c:Y'),b.ch[i]? =some c->c.length=b.sz/\∀(j:Nat) (d:DL),c[j]? =some d->∃v,C[i*b.sz+j]? =some v/\XH w O μ h v d
structure X1 (w:World)(O:BS)(μ:Nat->Nat)(h:HF):Prop where
 RV:∀id b,h id=some b->Wx w O μ h id b
 inj:∀id id' b b',h id=some b->h id'=some b'->μ id=μ id'->id=id'
 Rl:∀id b,h id=some b->¬O (μ id)
 lt:∀b,O b->b<w.heap.size
structure WL (O:BS)(w:World)(μ:Nat->Nat)(h:HF)(w':World)(μ':Nat->Nat)(h':HF):Prop where
 os:w'.os=w.os
 tape:w'.tape=w.tape
 output:w'.output=w.output
 keeps:RS w (Live O μ h) w' (Live O μ' h')
 aK:∀b,O b->w'.heap[b]? =w.heap[b]?
 ids:∀id b,h id=some b->∃b',h' id=some b'/\b.XW<=b'.XW/\b'.mp=b.mp/\
  (b'.XW=b.XW->μ' id=μ id/\b'.sz=b.sz/\∀(C:Array Value) (T:TypeId),w.heap[μ id]? =some (.cells C T (0,0))->∃C':Array Value,w'.heap[μ id]? =some (.cells C' T (0,0))/\C'.size=C.size)
 maps:∀id b,h id=some b->b.mp=true->μ' id=μ id
theorem WL.refl (O)(w)(a)(h):WL O w a h w a h:=
 ⟨rfl,rfl,rfl,.refl _ _,fun _ _=>rfl,fun _ b c=>⟨b,c,Zf _,rfl,fun _=>⟨rfl,rfl,fun C _ d=>⟨C,d,rfl⟩⟩⟩,fun _ _ _ _=>rfl⟩
theorem WL.trans {O}{w m g}{n i c}{h l e}(a:WL O w n h m i l)(b:WL O m i l g c e):WL O w n h g c e:=by
 refine⟨b.os.trans a.os,b.tape.trans a.tape,b.output.trans a.output,a.keeps.trans b.keeps,fun x d=>(b.aK x d).trans (a.aK x d),fun id x d=> ?_,fun id x d j=> ?_⟩
 ·obtain⟨y,k,r,j,q⟩:=a.ids id x d;obtain⟨z,s,p,f,o⟩:=b.ids id y k
  grind
 ·obtain⟨y,k,_,f,_⟩:=a.ids id x d;exact(b.maps id y k (f.trans j)).trans (a.maps id x d j)
theorem XH.mono {O}{w C}{D s}{h B}(m:WL O w D h C s B){v}{l}(r:XH w O D h v l):XH C O s B v l:=by
 induction r with
 |p v l F=>exact .p v l (F.keeps m.keeps)
 |own id XW j A b g o u k z x G=>
  obtain⟨n,a,d,t,c⟩:=m.ids id b k;refine .own id XW j A n g o u a (Zy z d) x fun e=> ?_
  grind
 |ptr id XW i j b g o k z G=>
  obtain⟨n,a,d,t,c⟩:=m.ids id b k;refine .ptr id XW i j n g o a (Zy z d) fun e=> ?_
  grind
 |fn f q E x I H=>exact .fn f q E x H
 |mp id b k t=>
  obtain⟨n,a,_,y,_⟩:=m.ids id b k;rw[<-m.maps id b k t];exact .mp id n a (y.trans t)
theorem XE.imp {c d:Type}{R S:c->d->Prop}{a}{b}(f:∀x y,R x y->S x y)(h:XE R a b):XE S a b:=by
 induction h with
 |nil=>exact .nil
 |cons e _ g=>exact .cons (f _ _ e) g
theorem XE.length {c d:Type}{R:c->d->Prop}{a}{b}(h:XE R a b):a.length=b.length:=by
 induction h with
 |nil=>rfl
 |cons _ _ e=>simp[e]
theorem XE.get {d a:Type}{R:d->a->Prop}{b:List d}{c:List a}(h:XE R b c):∀(i:Nat) (y:a),c[i]? =some y->∃x,b[i]? =some x/\R x y:=by
 induction h with
 |nil=>intro i y e;simp at e
 |cons f _ g=>
  grind
theorem XE.Uq {e g:Type}{R:e->g->Prop}:∀{c:List e} {d:List g},c.length=d.length->(∀(i:Nat) (x:e) (y:g),c[i]? =some x->d[i]? =some y->R x y)->XE R c d
 |[],[],_,_=>.nil
 |[],_::_,h,_=>by simp at h
 |_::_,[],h,_=>by simp at h
 |x::c,y::d,h,f=>.cons (f 0 x y rfl rfl) (XE.Uq (by simpa using h) fun i a b j k=>f (i+1) a b (by simpa using j) (by simpa using k))
theorem XE.append {e f:Type}{R:e->f->Prop}{c a}{d b:List f}(h:XE R c d)(k:XE R a b):XE R (c++a) (d++b):=by
 induction h with
 |nil=>exact k
 |cons g _ i=>exact .cons g i
theorem XE.take {c d:Type}{R:c->d->Prop}{a}{b}(h:XE R a b)(n):XE R (a.take n) (b.take n):=by
 induction h generalizing n with
 |nil=>simp;exact .nil
 |cons e _ f=>cases n with
  |zero=>exact .nil
  |succ n=>exact .cons e (f n)
theorem XE.drop {c d:Type}{R:c->d->Prop}{a}{b}(h:XE R a b)(n):XE R (a.drop n) (b.drop n):=by
 induction h generalizing n with
 |nil=>simp;exact .nil
 |cons e t f=>cases n with
  |zero=>exact .cons e t
  |succ n=>simpa using f n
theorem Ua.mono {O}{w c}{e a}{h b}(m:WL O w e h c a b){v}{d}(r:Ua w O e h v d):Ua c O a b v d:=by
 cases d with
 |one l=>exact XH.mono m r
 |agg j=>obtain⟨i,g,f⟩:=r;exact⟨i,g,f.imp fun _ _=>XH.mono m⟩
 |Wd k=>exact r
theorem XF.mono {O}{w c}{e a}{h b}(m:WL O w e h c a b){v}{d}(r:XF w O e h v d):XF c O a b v d:=by
 cases d with
 |one l=>exact Ua.mono (d:=.one l) m r
 |agg f=>exact Ua.mono (d:=.agg f) m r
 |Wd k=>obtain⟨j,i,g⟩:=r;exact⟨j,i,g.imp fun _ _=>Ua.mono m⟩
theorem XF.YR {w}{O}{a}{h}{v}{d}(r:Ua w O a h v d):XF w O a h v d:=by
 cases d with
 |one l=>exact r
 |agg b=>exact r
 |Wd c=>obtain⟨rfl,rfl⟩:=r;exact⟨[],rfl,.nil⟩
theorem XF.cells {w}{O}{c}{h}{v}{d}{b}(r:XF w O c h v d)(a:d.cells=some b):XE (XH w O c h) v.cells.toList b:=by
 cases d with
 |one l=>
  simp[DV.cells]at a;subst a;have f:=XH.one r;have :v.cells=#[v]:=by cases v<;>first |rfl|simp[Value.oneCell']at f
  rw[this];exact .cons r .nil
 |agg e=>
  simp[DV.cells]at a;subst a;obtain⟨i,rfl,g⟩:=r;exact g
 |Wd e=>simp[DV.cells]at a
theorem V0 (a b):gG a b=true↔a=b:=by cases a<;>cases b<;>decide
theorem kT (a b):Nr a b=(a==b):=by
 rw[Bool.eq_iff_iff,beq_iff_eq];cases a<;>cases b<;>simp[Nr]<;>omega
theorem qk (a b):S6 a b=decide (a<b):=by
 rw[Bool.eq_iff_iff,decide_eq_true_iff];cases a<;>cases b<;>simp[S6,Nat.blt,Nat.ble_eq]<;>omega
theorem Ep (a b):yY a b=decide (a<=b):=by
 rw[yY,qk,Bool.eq_iff_iff];simp
theorem uf (k):Ey k=k.bits:=by cases k<;>rfl
theorem QU (k):QL k=2^k.bits:=by cases k<;>rfl
theorem wU (k):qm k=k.signed:=by cases k<;>rfl
theorem Bo (k):QL k / 2=2^(k.bits-1):=by cases k<;>rfl
theorem ud (k):0<QL k:=by cases k<;>decide
theorem GQ (k)(n):W4 k n<QL k:=by
 have:=ud k;cases n with
 |ofNat m=>exact ZN _ this
 |negSucc m=>grind [W4]
theorem yw (k)(n):(W4 k n:Int)=n%(2^k.bits:Int):=by
 have b:=ud k;have a:(2^k.bits:Int)=(QL k:Int):=by rw[QU];simp
 rw[a];cases n with
 |ofNat m=>simp[W4]
 |negSucc m=>
  simp only[W4];have c:=ZN m b;generalize QL k=M at *;rw[Int.negSucc_emod _ (by omega)];omega
theorem OU (k)(r)(h:r<QL k):U6 k r=k.wrap r:=by
 have b:((r:Int)%(2^k.bits:Int))=r:=by
  have a:(2^k.bits:Int)=(QL k:Int):=by rw[QU];simp
  simp_all [Int.emod_eq_of_lt]
 grind [U6,IntKind.wrap,wU,Bo,QU,Nat.ble_eq]
theorem zY (k:IntKind)(n:Int):k.wrap (n%(2^k.bits:Int))=k.wrap n:=by simp_all [IntKind.wrap]
theorem Ry (k:IntKind)(n:Int):Xd k n=k.wrap n:=by grind [Xd,OU,GQ,yw,zY]
theorem Gw (a)(n):Gx a n=a.fdiv (2^n):=by
 have b:((2:Int)^n)=((2^n:Nat):Int):=by simp
 have c:0<2^n:=Yr (by decide);rw[b];cases a with
 |ofNat m=>grind [Gx]
 |negSucc m=>
  simp only[Gx];generalize 2^n=M at *;obtain⟨q,rfl⟩:∃q,M=q+1:=⟨M-1,by omega⟩;rfl
theorem RP (k)(n):(BitVec.ofInt k.bits n).toNat=W4 k n:=by grind [yw,BitVec.toNat_ofInt]
theorem and_eq (k)(a b):U6 k (Nat.land (W4 k a) (W4 k b))=k.wrap ((BitVec.ofInt k.bits a&&&BitVec.ofInt k.bits b).toNat:Int):=by
 have e:(BitVec.ofInt k.bits a&&&BitVec.ofInt k.bits b).toNat=Nat.land (W4 k a) (W4 k b):=by rw[BitVec.toNat_and,RP,RP];rfl
 grind [OU,QU]
theorem or_eq (k)(a b):U6 k (Nat.lor (W4 k a) (W4 k b))=k.wrap ((BitVec.ofInt k.bits a|||BitVec.ofInt k.bits b).toNat:Int):=by
 have e:(BitVec.ofInt k.bits a|||BitVec.ofInt k.bits b).toNat=Nat.lor (W4 k a) (W4 k b):=by rw[BitVec.toNat_or,RP,RP];rfl
 grind [OU,QU]
theorem xor_eq (k)(a b):U6 k (Nat.xor (W4 k a) (W4 k b))=k.wrap ((BitVec.ofInt k.bits a^^^BitVec.ofInt k.bits b).toNat:Int):=by
 have e:(BitVec.ofInt k.bits a^^^BitVec.ofInt k.bits b).toNat=Nat.xor (W4 k a) (W4 k b):=by rw[BitVec.toNat_xor,RP,RP];rfl
 grind [OU,QU]
theorem A5 (k)(b):(~~~ BitVec.ofInt k.bits b).toNat=Nat.xor (QL k-1) (W4 k b):=by
 rw[<-RP,QU];have :(2^k.bits-1:Nat)=(BitVec.allOnes k.bits).toNat:=by simp
 rw[this];show _=((BitVec.allOnes k.bits).toNat^^^(BitVec.ofInt k.bits b).toNat);rw[<-BitVec.toNat_xor,BitVec.allOnes_xor]
theorem Cd (k)(a b):U6 k (Nat.land (W4 k a) (Nat.xor (QL k-1) (W4 k b)))=k.wrap ((BitVec.ofInt k.bits a&&&~~~ BitVec.ofInt k.bits b).toNat:Int):=by
 have e:(BitVec.ofInt k.bits a&&&~~~ BitVec.ofInt k.bits b).toNat=Nat.land (W4 k a) (Nat.xor (QL k-1) (W4 k b)):=by rw[BitVec.toNat_and,RP,A5];rfl
 grind [OU,QU]
theorem CA (k)(n):U6 k (Nat.xor (QL k-1) (W4 k n))=k.wrap ((BitVec.ofInt k.bits (if k.signed then -1 else k.max)^^^BitVec.ofInt k.bits n).toNat:Int):=by
 have e:W4 k (if k.signed then -1 else k.max)=QL k-1:=by cases k<;>rfl
 rw[<-e,xor_eq]
