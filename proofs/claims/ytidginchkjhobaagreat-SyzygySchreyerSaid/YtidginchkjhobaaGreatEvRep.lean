/- How abstract values stand for values in a world; what stays when the world grows. -/
import Derived.Test.YtidginchkjhobaaGreatEvDef
namespace Go.Ev
open Go.RowKit
abbrev BS:=Nat->Prop
def zX (f:Nat)(cv:List Value):Value:=bif Nat.blt f aM then .func (.func f) #[] cv.toArray else .func (.func (f-aM)) cv.toArray #[]
theorem xC (f:Nat)(a:List Value):(zX f a).oneCell'=true:=by
 unfold zX;cases Nat.blt f aM<;>rfl
theorem mL {f:Nat}(h:Nat.blt f aM=true)(a:List Value):zX f a=.func (.func f) #[] a.toArray:=by
 simp only[zX,h,cond_true]
theorem Gr {f:Nat}(h:Nat.blt f aM=false)(a:List Value):zX f a=.func (.func (f-aM)) a.toArray #[]:=by
 simp only[zX,h,cond_false]
theorem mN (f:Nat)(c:List Value):∃g a b,zX f c=.func (.func g) a b:=by
 cases h:Nat.blt f aM with
 |true=>exact⟨_,_,_,mL h c⟩
 |false=>exact⟨_,_,_,Gr h c⟩
inductive Ws (w:World)(O:BS):Value->PL->Prop
 |bool (b:Bool):Ws w O (.bool b) (.bool b)
 |int (k:IntKind) (n:Int):Ws w O (.int k n) (.int k n)
 |Xq:Ws w O (.slice none 0 0) .Xq
 |str (s:ByteArray):Ws w O (.string s) (.str (s.data.toList.map UInt8.toNat))
 |Qo (v:Value) (h:v.oneCell'=true):Ws w O v .Qo
 |fn (f:Nat) (caps:N') (cv:List Value) (hl:cv.length=caps.length)
   (hc:∀(i:Nat) (d:PL) (v:Value),caps[i]? =some d->cv[i]? =some v->Ws w O v d):Ws w O (zX f cv) (.fn f caps)
 |ref (b off:Nat) (cs:N') (vals:Nat->Value) (ho:∀(j:Nat) (d:PL),cs[j]? =some d->¬O b)
   (hc:∀(j:Nat) (d:PL),cs[j]? =some d->w.cell? ⟨b,off+j,none⟩=some (vals j))
   (hr:∀(j:Nat) (d:PL),cs[j]? =some d->Ws w O (vals j) d):Ws w O (.pointer (some ⟨b,off,none⟩)) (.ref cs)
 |Xn {sp:Option Nat} (b off sz cap:Nat) (es:I') (vals:Nat->Nat->Value) (ho:∀(i:Nat) (c:N') (j:Nat) (d:PL),es[i]? =some c->c[j]? =some d->¬O b) (hcap:es.length<=cap)
   (hs:∀(i:Nat) (c:N'),es[i]? =some c->c.length=sz)
   (hc:∀(i:Nat) (c:N') (j:Nat) (d:PL),es[i]? =some c->c[j]? =some d->w.cell? ⟨b,off+i*sz+j,none⟩=some (vals i j))
   (hr:∀(i:Nat) (c:N') (j:Nat) (d:PL),es[i]? =some c->c[j]? =some d->Ws w O (vals i j) d) (hsp:es=[]\/sp=none):
   Ws w O (.slice (some ⟨b,off,sp⟩) es.length cap) (.Xn es)
theorem Ws.one {w:World}{O:BS}{v:Value}{l:PL}(h:Ws w O v l):v.oneCell'=true:=by
 cases h<;>first |rfl|assumption|exact xC _ _
structure RA (w:World)(L:BS)(w':World)(L':BS):Prop where
 size:w.heap.size<=w'.heap.size
 VM:∀b,b<w.heap.size->¬L b->w'.heap[b]? =w.heap[b]?
 live:∀b,L' b->L b\/w.heap.size<=b
theorem RA.cell {w c:World}{L d:BS}(h:RA w L c d){b o:Nat}{v:Value}(e:¬L b)(a:w.cell? ⟨b,o,none⟩=some v):c.cell? ⟨b,o,none⟩=some v:=
 (World.cell?_of_block (h.VM b (World.block_lt_of_cell? w _ a) e)).trans a
theorem RA.out {w f:World}{L a:BS}(h:RA w L f a){b o:Nat}{v:Value}(c:¬L b)(d:w.cell? ⟨b,o,none⟩=some v):¬a b:=by
 intro e;have:=World.block_lt_of_cell? w _ d;rcases h.live b e with h1|h1
 ·exact c h1
 ·simp at this;omega
theorem RA.refl (w:World)(L:BS):RA w L w L:=⟨Ze _,fun _ _ _=>rfl,fun _ h=>.inl h⟩
theorem RA.trans {w i c:World}{L f a:BS}(h:RA w L i f)(k:RA i f c a):RA w L c a:=by
 refine⟨Zx h.size k.size,fun b g d=> ?_,fun b d=> ?_⟩
 ·refine(k.VM b (ZZ g h.size) fun e=> ?_).trans (h.VM b g d);rcases h.live b e with h1|h1
  ·exact d h1
  ·omega
 ·rcases k.live b d with h1|h1
  ·exact h.live b h1
  ·exact .inr (Zx h.size h1)
theorem Ws.keeps {w A:World}{L z:BS}(k:RA w L A z){v:Value}{l:PL}(h:Ws w L v l):Ws A z v l:=by
 induction h with
 |bool b=>exact .bool b
 |int a n=>exact .int a n
 |Xq=>exact .Xq
 |str s=>exact .str s
 |Qo v h=>exact .Qo v h
 |fn f p C E o u=>exact .fn f p C E u
 |ref b m B g t o F u=>
  exact .ref b m B g (fun j d e=>k.out (t j d e) (o j d e)) (fun j d e=>k.cell (t j d e) (o j d e)) u
 |Xn b m H x D g t q G o F y u=>
  exact .Xn b m H x D g (fun i c j d r e=>k.out (t i c j d r e) (o i c j d r e)) q G
   (fun i c j d r e=>k.cell (t i c j d r e) (o i c j d r e)) u y
def Live (O:BS)(μ:Nat->Nat)(h:HF):BS:=fun b=>O b\/∃id RH,h id=some RH/\RH.fz=false/\μ id=b
inductive XE (w:World)(O:BS)(μ:Nat->Nat)(h:HF):Value->DL->Prop
 |p (v:Value) (l:PL) (hp:Ws w (Live O μ h) v l):XE w O μ h v (.p l)
 |own (id XM off len:Nat) (b:Xx) (g o cap:Nat) (hb:h id=some b) (hv:XM<=b.XM) (hl:len<=cap)
   (hs:XM=b.XM->g=μ id/\∃(C:Array Value) (T:TypeId),w.heap[μ id]? =some (.cells C T (0,0))/\
    ((o=off*b.sz/\(off+cap)*b.sz=C.size/\cap<=maxLen)\/(len=0/\cap=0/\0<off))):XE w O μ h (.slice (some ⟨g,o,none⟩) len cap) (.own id XM off len)
 |ptr (id XM i off:Nat) (b:Xx) (g o:Nat) (hb:h id=some b) (hv:XM<=b.XM)
   (hs:XM=b.XM->g=μ id/\o=i*b.sz+off):XE w O μ h (.pointer (some ⟨g,o,none⟩)) (.ptr id XM i off)
 |fn (f:Nat) (caps:Y') (cv:List Value) (hl:cv.length=caps.length)
   (hc:∀(i:Nat) (d:DL) (v:Value),caps[i]? =some d->cv[i]? =some v->XE w O μ h v d):XE w O μ h (zX f cv) (.fn f caps)
 |mp (id:Nat) (b:Xx) (hb:h id=some b) (hm:b.mp=true):XE w O μ h (.map (some (μ id))) (.mp id)
theorem XE.one {w:World}{O:BS}{c:Nat->Nat}{h:HF}{v:Value}{l:DL}(r:XE w O c h v l):v.oneCell'=true:=by
 cases r with
 |p _ _ b=>exact b.one
 |own=>rfl
 |ptr=>rfl
 |fn f _ a _ _=>exact xC f a
 |mp _ _ _ _=>rfl
inductive XB {α β:Type}(R:α->β->Prop):List α->List β->Prop
 |nil:XB R [] []
 |cons {x:α} {y:β} {xs:List α} {ys:List β} (h:R x y) (t:XB R xs ys):XB R (x::xs) (y::ys)
def V5 (w:World)(O:BS)(μ:Nat->Nat)(h:HF)(v:Value):DV->Prop
 | .one l=>XE w O μ h v l
 | .agg cs=>∃xs:List Value,v=.agg xs.toArray/\XB (XE w O μ h) xs cs
 | .X9 ds=>ds=[]/\v=.tuple #[]
def XA (w:World)(O:BS)(μ:Nat->Nat)(h:HF)(v:Value):DV->Prop
 | .X9 ds=>∃xs:List Value,v=.tuple xs.toArray/\XB (V5 w O μ h) xs ds
 |d=>V5 w O μ h v d
def N7 (agg:Bool)(v:Value)(xs:List Value):Prop:=if agg then v=.agg xs.toArray else xs=[v]
def tQ (es:List MapEntry)(clk:Nat):Prop:=es.Pairwise (fun a b=>a.born≠b.born)/\∀e∈es,e.born<clk
def kU (o:Obj):Prop:=(∀C T z,o≠.cells C T z)/\∀es clk,o≠.map es clk
def Wr (w:World)(O:BS)(μ:Nat->Nat)(h:HF)(id:Nat)(b:Xx):Prop:=
 if b.mp then if Nat.beq b.ty 2 then∃o,w.heap[μ id]? =some o/\kU o else∃(es:Array MapEntry) (clk:Nat),w.heap[μ id]? =some (.map es clk)/\(b.XM=0/\tQ es.toList clk)/\
   XB (fun(e:MapEntry) (c:Y')=>∃kv xv:List Value,e.key=.agg kv.toArray/\N7 (Nat.beq b.ty 1) e.val xv/\kv.length=b.sz/\XB (XE w O μ h) (kv++xv) c) es.toList b.ch
 else∃(C:Array Value),w.heap[μ id]? =some (.cells C b.ty (0,0))/\b.ch.length*b.sz<=C.size/\
  ∀(i:Nat) (c:Y'),b.ch[i]? =some c->c.length=b.sz/\∀(j:Nat) (d:DL),c[j]? =some d->∃v,C[i*b.sz+j]? =some v/\XE w O μ h v d
structure X3 (w:World)(O:BS)(μ:Nat->Nat)(h:HF):Prop where
 RH:∀id b,h id=some b->Wr w O μ h id b
 inj:∀id id' b b',h id=some b->h id'=some b'->μ id=μ id'->id=id'
 S7:∀id b,h id=some b->¬O (μ id)
 lt:∀b,O b->b<w.heap.size
structure Wy (O:BS)(w:World)(μ:Nat->Nat)(h:HF)(w':World)(μ':Nat->Nat)(h':HF):Prop where
 os:w'.os=w.os
 tape:w'.tape=w.tape
 output:w'.output=w.output
 keeps:RA w (Live O μ h) w' (Live O μ' h')
 N1:∀b,O b->w'.heap[b]? =w.heap[b]?
 ids:∀id b,h id=some b->∃b',h' id=some b'/\b.XM<=b'.XM/\b'.mp=b.mp/\
  (b'.XM=b.XM->μ' id=μ id/\b'.sz=b.sz/\∀(C:Array Value) (T:TypeId),w.heap[μ id]? =some (.cells C T (0,0))->∃C':Array Value,w'.heap[μ id]? =some (.cells C' T (0,0))/\C'.size=C.size)
 maps:∀id b,h id=some b->b.mp=true->μ' id=μ id
theorem Wy.refl (O:BS)(w:World)(a:Nat->Nat)(h:HF):Wy O w a h w a h:=
 ⟨rfl,rfl,rfl,.refl _ _,fun _ _=>rfl,fun _ b c=>⟨b,c,Ze _,rfl,fun _=>⟨rfl,rfl,fun C _ d=>⟨C,d,rfl⟩⟩⟩,fun _ _ _ _=>rfl⟩
theorem Wy.trans {O:BS}{w v l:World}{A m d:Nat->Nat}{h u i:HF}(a:Wy O w A h v m u)(b:Wy O v m u l d i):Wy O w A h l d i:=by
 refine⟨b.os.trans a.os,b.tape.trans a.tape,b.output.trans a.output,a.keeps.trans b.keeps,fun x g=>(b.N1 x g).trans (a.N1 x g),fun id x g=> ?_,fun id x g n=> ?_⟩
 ·obtain⟨y,r,H,n,G⟩:=a.ids id x g;obtain⟨z,I,q,f,p⟩:=b.ids id y r;refine⟨z,I,Zx H q,f.trans n,fun e=> ?_⟩;have e1:y.XM=x.XM:=by omega
  have e2:z.XM=y.XM:=by omega
  obtain⟨t,J,D⟩:=G e1;obtain⟨m2,K,E⟩:=p e2;refine⟨m2.trans t,K.trans J,fun C T F=> ?_⟩;obtain⟨B,j,s⟩:=D C T F;rw[<-t]at j;obtain⟨o,c,k⟩:=E B T j;rw[t]at c;exact⟨o,c,k.trans s⟩
 ·obtain⟨y,r,_,f,_⟩:=a.ids id x g;exact(b.maps id y r (f.trans n)).trans (a.maps id x g n)
theorem XE.mono {O:BS}{w H:World}{I s:Nat->Nat}{h G:HF}(m:Wy O w I h H s G){v:Value}{l:DL}(r:XE w O I h v l):XE H O s G v l:=by
 induction r with
 |p v l Q=>exact .p v l (Q.keeps m.keeps)
 |own id XM j E b g o x n D z B=>
  obtain⟨k,c,d,t,a⟩:=m.ids id b n;refine .own id XM j E k g o x c (Zx D d) z fun e=> ?_
  have e1:k.XM=b.XM:=by omega
  obtain⟨u,F,K⟩:=a e1;obtain⟨P,C,T,M,N⟩:=B (by omega);obtain⟨J,y,R⟩:=K C T M;refine⟨by rw[u];exact P,J,T,by rw[u];exact y,?_⟩;rw[F,R];exact N
 |ptr id XM i j b g o n D B=>
  obtain⟨k,c,d,t,a⟩:=m.ids id b n;refine .ptr id XM i j k g o c (Zx D d) fun e=> ?_
  obtain⟨u,F,_⟩:=a (by omega);rw[u,F];exact B (by omega)
 |fn f q L z U S=>exact .fn f q L z S
 |mp id b n t=>
  obtain⟨k,c,_,A,_⟩:=m.ids id b n;rw[<-m.maps id b n t];exact .mp id k c (A.trans t)
theorem XB.imp {c d:Type}{R S:c->d->Prop}{a:List c}{b:List d}(f:∀x y,R x y->S x y)(h:XB R a b):XB S a b:=by
 induction h with
 |nil=>exact .nil
 |cons e _ g=>exact .cons (f _ _ e) g
theorem XB.length {c d:Type}{R:c->d->Prop}{a:List c}{b:List d}(h:XB R a b):a.length=b.length:=by
 induction h with
 |nil=>rfl
 |cons _ _ e=>simp[e]
theorem XB.get {e b:Type}{R:e->b->Prop}{c:List e}{d:List b}(h:XB R c d):∀(i:Nat) (y:b),d[i]? =some y->∃x,c[i]? =some x/\R x y:=by
 induction h with
 |nil=>intro i y a;simp at a
 |cons f _ g=>
  intro i y a;cases i with
  |zero=>simp at a;subst a;exact⟨_,rfl,f⟩
  |succ i=>simpa using g i y (by simpa using a)
theorem XB.Uj {e g:Type}{R:e->g->Prop}:∀{c:List e} {d:List g},c.length=d.length->(∀(i:Nat) (x:e) (y:g),c[i]? =some x->d[i]? =some y->R x y)->XB R c d
 |[],[],_,_=>.nil
 |[],_::_,h,_=>by simp at h
 |_::_,[],h,_=>by simp at h
 |x::c,y::d,h,f=>.cons (f 0 x y rfl rfl) (XB.Uj (by simpa using h) fun i a b j k=>f (i+1) a b (by simpa using j) (by simpa using k))
theorem XB.append {e f:Type}{R:e->f->Prop}{c a:List e}{d b:List f}(h:XB R c d)(k:XB R a b):XB R (c++a) (d++b):=by
 induction h with
 |nil=>exact k
 |cons g _ i=>exact .cons g i
theorem XB.take {c d:Type}{R:c->d->Prop}{a:List c}{b:List d}(h:XB R a b)(n:Nat):XB R (a.take n) (b.take n):=by
 induction h generalizing n with
 |nil=>simp;exact .nil
 |cons e _ f=>cases n with
  |zero=>exact .nil
  |succ n=>exact .cons e (f n)
theorem XB.drop {c d:Type}{R:c->d->Prop}{a:List c}{b:List d}(h:XB R a b)(n:Nat):XB R (a.drop n) (b.drop n):=by
 induction h generalizing n with
 |nil=>simp;exact .nil
 |cons e t f=>cases n with
  |zero=>exact .cons e t
  |succ n=>simpa using f n
theorem V5.mono {O:BS}{w c:World}{e a:Nat->Nat}{h b:HF}(m:Wy O w e h c a b){v:Value}{d:DV}(r:V5 w O e h v d):V5 c O a b v d:=by
 cases d with
 |one l=>exact XE.mono m r
 |agg j=>obtain⟨i,g,f⟩:=r;exact⟨i,g,f.imp fun _ _=>XE.mono m⟩
 |X9 k=>exact r
theorem XA.mono {O:BS}{w c:World}{e a:Nat->Nat}{h b:HF}(m:Wy O w e h c a b){v:Value}{d:DV}(r:XA w O e h v d):XA c O a b v d:=by
 cases d with
 |one l=>exact V5.mono (d:=.one l) m r
 |agg f=>exact V5.mono (d:=.agg f) m r
 |X9 k=>obtain⟨j,i,g⟩:=r;exact⟨j,i,g.imp fun _ _=>V5.mono m⟩
theorem XA.K9 {w:World}{O:BS}{a:Nat->Nat}{h:HF}{v:Value}{d:DV}(r:V5 w O a h v d):XA w O a h v d:=by
 cases d with
 |one l=>exact r
 |agg b=>exact r
 |X9 c=>obtain⟨rfl,rfl⟩:=r;exact⟨[],rfl,.nil⟩
theorem XA.cells {w:World}{O:BS}{c:Nat->Nat}{h:HF}{v:Value}{d:DV}{b:Y'}(r:XA w O c h v d)(a:d.cells=some b):XB (XE w O c h) v.cells.toList b:=by
 cases d with
 |one l=>
  simp[DV.cells]at a;subst a;have f:=XE.one r;have :v.cells=#[v]:=by cases v<;>first |rfl|simp[Value.oneCell']at f
  rw[this];exact .cons r .nil
 |agg e=>
  simp[DV.cells]at a;subst a;obtain⟨i,rfl,g⟩:=r;exact g
 |X9 e=>simp[DV.cells]at a
theorem VY (a b:IntKind):fH a b=true↔a=b:=by cases a<;>cases b<;>decide
theorem dX (a b:Int):Oi a b=(a==b):=by
 rw[Bool.eq_iff_iff,beq_iff_eq];cases a<;>cases b<;>simp[Oi]<;>omega
theorem ov (a b:Int):SR a b=decide (a<b):=by
 rw[Bool.eq_iff_iff,decide_eq_true_iff];cases a<;>cases b<;>simp[SR,Nat.blt,Nat.ble_eq]<;>omega
theorem Co (a b:Int):w9 a b=decide (a<=b):=by
 rw[w9,ov,Bool.eq_iff_iff];simp
theorem r9 (k:IntKind):Cs k=k.bits:=by cases k<;>rfl
theorem QH (k:IntKind):Ql k=2^k.bits:=by cases k<;>rfl
theorem vc (k:IntKind):ox k=k.signed:=by cases k<;>rfl
theorem zB (k:IntKind):Ql k / 2=2^(k.bits-1):=by cases k<;>rfl
theorem rY (k:IntKind):0<Ql k:=by cases k<;>decide
theorem EI (k:IntKind)(n:Int):WR k n<Ql k:=by
 have:=rY k;cases n with
 |ofNat m=>exact Z1 _ this
 |negSucc m=>grind [WR]
theorem wy (k:IntKind)(n:Int):(WR k n:Int)=n%(2^k.bits:Int):=by
 have b:=rY k;have a:(2^k.bits:Int)=(Ql k:Int):=by rw[QH];simp
 rw[a];cases n with
 |ofNat m=>simp[WR]
 |negSucc m=>
  simp only[WR];have c:=Z1 m b;generalize Ql k=M at *;rw[Int.negSucc_emod _ (by omega)];omega
theorem Ov (k:IntKind)(r:Nat)(h:r<Ql k):UU k r=k.wrap r:=by
 have d:((r:Int)%(2^k.bits:Int))=r:=by
  have b:(2^k.bits:Int)=(Ql k:Int):=by rw[QH];simp
  simp_all [Int.emod_eq_of_lt]
 unfold UU IntKind.wrap;rw[d,vc,zB];have b:((2:Int)^k.bits)=(Ql k:Int):=by rw[QH];simp
 have c:((2:Int)^(k.bits-1))=((2^(k.bits-1):Nat):Int):=by simp
 simp only[b,c];cases f:k.signed
 ·simp
 ·by_cases e:2^(k.bits-1)<=r
  ·have a:Nat.ble (2^(k.bits-1)) r=true:=by grind [Nat.ble_eq]
   grind
  ·have a:Nat.ble (2^(k.bits-1)) r=false:=by
    grind [Nat.ble_eq]
   grind
theorem yc (k:IntKind)(n:Int):k.wrap (n%(2^k.bits:Int))=k.wrap n:=by simp_all [IntKind.wrap]
theorem Rk (k:IntKind)(n:Int):Xe k n=k.wrap n:=by grind [Xe,Ov,EI,wy,yc]
theorem Em (a:Int)(n:Nat):En a n=a.fdiv (2^n):=by
 have b:((2:Int)^n)=((2^n:Nat):Int):=by simp
 have c:0<2^n:=YN (by decide);rw[b];cases a with
 |ofNat m=>grind [En]
 |negSucc m=>
  simp only[En];generalize 2^n=M at *;obtain⟨q,rfl⟩:∃q,M=q+1:=⟨M-1,by omega⟩;rfl
theorem Rx (k:IntKind)(n:Int):(BitVec.ofInt k.bits n).toNat=WR k n:=by grind [wy,BitVec.toNat_ofInt]
theorem and_eq (k:IntKind)(a b:Int):UU k (Nat.land (WR k a) (WR k b))=k.wrap ((BitVec.ofInt k.bits a&&&BitVec.ofInt k.bits b).toNat:Int):=by
 have e:(BitVec.ofInt k.bits a&&&BitVec.ofInt k.bits b).toNat=Nat.land (WR k a) (WR k b):=by rw[BitVec.toNat_and,Rx,Rx];rfl
 grind [Ov,QH]
theorem or_eq (k:IntKind)(a b:Int):UU k (Nat.lor (WR k a) (WR k b))=k.wrap ((BitVec.ofInt k.bits a|||BitVec.ofInt k.bits b).toNat:Int):=by
 have e:(BitVec.ofInt k.bits a|||BitVec.ofInt k.bits b).toNat=Nat.lor (WR k a) (WR k b):=by rw[BitVec.toNat_or,Rx,Rx];rfl
 grind [Ov,QH]
theorem xor_eq (k:IntKind)(a b:Int):UU k (Nat.xor (WR k a) (WR k b))=k.wrap ((BitVec.ofInt k.bits a^^^BitVec.ofInt k.bits b).toNat:Int):=by
 have e:(BitVec.ofInt k.bits a^^^BitVec.ofInt k.bits b).toNat=Nat.xor (WR k a) (WR k b):=by rw[BitVec.toNat_xor,Rx,Rx];rfl
 grind [Ov,QH]
theorem ze (k:IntKind)(b:Int):(~~~ BitVec.ofInt k.bits b).toNat=Nat.xor (Ql k-1) (WR k b):=by
 rw[<-Rx,QH];have :(2^k.bits-1:Nat)=(BitVec.allOnes k.bits).toNat:=by simp
 rw[this];show _=((BitVec.allOnes k.bits).toNat^^^(BitVec.ofInt k.bits b).toNat);rw[<-BitVec.toNat_xor,BitVec.allOnes_xor]
theorem Ax (k:IntKind)(a b:Int):UU k (Nat.land (WR k a) (Nat.xor (Ql k-1) (WR k b)))=k.wrap ((BitVec.ofInt k.bits a&&&~~~ BitVec.ofInt k.bits b).toNat:Int):=by
 have e:(BitVec.ofInt k.bits a&&&~~~ BitVec.ofInt k.bits b).toNat=Nat.land (WR k a) (Nat.xor (Ql k-1) (WR k b)):=by rw[BitVec.toNat_and,Rx,ze];rfl
 grind [Ov,QH]
theorem AO (k:IntKind)(n:Int):UU k (Nat.xor (Ql k-1) (WR k n))=k.wrap ((BitVec.ofInt k.bits (if k.signed then -1 else k.max)^^^BitVec.ofInt k.bits n).toNat:Int):=by
 have e:WR k (if k.signed then -1 else k.max)=Ql k-1:=by cases k<;>rfl
 rw[<-e,xor_eq]
end Go.Ev
