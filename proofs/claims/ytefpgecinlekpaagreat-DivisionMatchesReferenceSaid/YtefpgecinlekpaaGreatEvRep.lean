/- How abstract values stand for values in a world; what stays when the world grows. -/
import Derived.Test.YtefpgecinlekpaaGreatEvDef
namespace Go.Ev
open Go.RowKit
abbrev BS:=Nat->Prop
def vX (f:Nat)(cv:List Value):Value:=bif Nat.blt f NL then .func (.func f) #[] cv.toArray else .func (.func (f-NL)) cv.toArray #[]
theorem tM (f:Nat)(a:List Value):(vX f a).oneCell'=true:=by
 unfold vX;cases Nat.blt f NL<;>rfl
theorem jL {f:Nat}(h:Nat.blt f NL=true)(a:List Value):vX f a=.func (.func f) #[] a.toArray:=by
 simp only[vX,h,cond_true]
theorem CU {f:Nat}(h:Nat.blt f NL=false)(a:List Value):vX f a=.func (.func (f-NL)) a.toArray #[]:=by
 simp only[vX,h,cond_false]
theorem jM (f:Nat)(c:List Value):∃g a b,vX f c=.func (.func g) a b:=by
 cases h:Nat.blt f NL with
 |true=>exact⟨_,_,_,jL h c⟩
 |false=>exact⟨_,_,_,CU h c⟩
inductive WE (w:World)(O:BS):Value->PL->Prop
 |bool (b:Bool):WE w O (.bool b) (.bool b)
 |int (k:IntKind) (n:Int):WE w O (.int k n) (.int k n)
 |XJ:WE w O (.slice none 0 0) .XJ
 |str (s:ByteArray):WE w O (.string s) (.str (s.data.toList.map UInt8.toNat))
 |RJ (v:Value) (h:v.oneCell'=true):WE w O v .RJ
 |fn (f:Nat) (caps:List PL) (cv:List Value) (hl:cv.length=caps.length)
   (hc:∀(i:Nat) (d:PL) (v:Value),caps[i]? =some d->cv[i]? =some v->WE w O v d):WE w O (vX f cv) (.fn f caps)
 |ref (b off:Nat) (cs:List PL) (vals:Nat->Value) (ho:∀(j:Nat) (d:PL),cs[j]? =some d->¬O b)
   (hc:∀(j:Nat) (d:PL),cs[j]? =some d->w.cell? ⟨b,off+j,none⟩=some (vals j))
   (hr:∀(j:Nat) (d:PL),cs[j]? =some d->WE w O (vals j) d):WE w O (.pointer (some ⟨b,off,none⟩)) (.ref cs)
 |Xv {sp:Option Nat} (b off sz cap:Nat) (es:List (List PL)) (vals:Nat->Nat->Value) (ho:∀(i:Nat) (c:List PL) (j:Nat) (d:PL),es[i]? =some c->c[j]? =some d->¬O b) (hcap:es.length<=cap)
   (hs:∀(i:Nat) (c:List PL),es[i]? =some c->c.length=sz)
   (hc:∀(i:Nat) (c:List PL) (j:Nat) (d:PL),es[i]? =some c->c[j]? =some d->w.cell? ⟨b,off+i*sz+j,none⟩=some (vals i j))
   (hr:∀(i:Nat) (c:List PL) (j:Nat) (d:PL),es[i]? =some c->c[j]? =some d->WE w O (vals i j) d) (hsp:es=[]\/sp=none):
   WE w O (.slice (some ⟨b,off,sp⟩) es.length cap) (.Xv es)
theorem WE.one {w:World}{O:BS}{v:Value}{l:PL}(h:WE w O v l):v.oneCell'=true:=by
 cases h<;>first |rfl|assumption|exact tM _ _
structure S4 (w:World)(L:BS)(w':World)(L':BS):Prop where
 size:w.heap.size<=w'.heap.size
 V2:∀b,b<w.heap.size->¬L b->w'.heap[b]? =w.heap[b]?
 live:∀b,L' b->L b\/w.heap.size<=b
theorem S4.cell {w c:World}{L d:BS}(h:S4 w L c d){b o:Nat}{v:Value}(e:¬L b)(a:w.cell? ⟨b,o,none⟩=some v):c.cell? ⟨b,o,none⟩=some v:=
 (World.cell?_of_block (h.V2 b (World.block_lt_of_cell? w _ a) e)).trans a
theorem S4.out {w f:World}{L a:BS}(h:S4 w L f a){b o:Nat}{v:Value}(c:¬L b)(d:w.cell? ⟨b,o,none⟩=some v):¬a b:=by
 intro e;have:=World.block_lt_of_cell? w _ d;rcases h.live b e with h1|h1
 ·exact c h1
 ·simp at this;omega
theorem S4.refl (w:World)(L:BS):S4 w L w L:=⟨Zh _,fun _ _ _=>rfl,fun _ h=>.inl h⟩
theorem S4.trans {w i c:World}{L f a:BS}(h:S4 w L i f)(k:S4 i f c a):S4 w L c a:=by
 refine⟨ZD h.size k.size,fun b g d=> ?_,fun b d=> ?_⟩
 ·refine(k.V2 b (ZW g h.size) fun e=> ?_).trans (h.V2 b g d);rcases h.live b e with h1|h1
  ·exact d h1
  ·omega
 ·rcases k.live b d with h1|h1
  ·exact h.live b h1
  ·exact .inr (ZD h.size h1)
theorem WE.keeps {w A:World}{L z:BS}(k:S4 w L A z){v:Value}{l:PL}(h:WE w L v l):WE A z v l:=by
 induction h with
 |bool b=>exact .bool b
 |int a n=>exact .int a n
 |XJ=>exact .XJ
 |str s=>exact .str s
 |RJ v h=>exact .RJ v h
 |fn f p C E o u=>exact .fn f p C E u
 |ref b m B g t o F u=>
  exact .ref b m B g (fun j d e=>k.out (t j d e) (o j d e)) (fun j d e=>k.cell (t j d e) (o j d e)) u
 |Xv b m H x D g t q G o F y u=>
  exact .Xv b m H x D g (fun i c j d r e=>k.out (t i c j d r e) (o i c j d r e)) q G
   (fun i c j d r e=>k.cell (t i c j d r e) (o i c j d r e)) u y
def Live (O:BS)(μ:Nat->Nat)(h:HF):BS:=fun b=>O b\/∃id QW,h id=some QW/\QW.fz=false/\μ id=b
inductive XP (w:World)(O:BS)(μ:Nat->Nat)(h:HF):Value->DL->Prop
 |p (v:Value) (l:PL) (hp:WE w (Live O μ h) v l):XP w O μ h v (.p l)
 |own (id XZ off len:Nat) (b:Xz) (g o cap:Nat) (hb:h id=some b) (hv:XZ<=b.XZ) (hl:len<=cap)
   (hs:XZ=b.XZ->g=μ id/\∃(C:Array Value) (T:TypeId),w.heap[μ id]? =some (.cells C T (0,0))/\
    ((o=off*b.sz/\(off+cap)*b.sz=C.size/\cap<=maxLen)\/(len=0/\cap=0/\0<off))):XP w O μ h (.slice (some ⟨g,o,none⟩) len cap) (.own id XZ off len)
 |ptr (id XZ i off:Nat) (b:Xz) (g o:Nat) (hb:h id=some b) (hv:XZ<=b.XZ)
   (hs:XZ=b.XZ->g=μ id/\o=i*b.sz+off):XP w O μ h (.pointer (some ⟨g,o,none⟩)) (.ptr id XZ i off)
 |fn (f:Nat) (caps:List DL) (cv:List Value) (hl:cv.length=caps.length)
   (hc:∀(i:Nat) (d:DL) (v:Value),caps[i]? =some d->cv[i]? =some v->XP w O μ h v d):XP w O μ h (vX f cv) (.fn f caps)
 |mp (id:Nat) (b:Xz) (hb:h id=some b) (hm:b.mp=true):XP w O μ h (.map (some (μ id))) (.mp id)
theorem XP.one {w:World}{O:BS}{c:Nat->Nat}{h:HF}{v:Value}{l:DL}(r:XP w O c h v l):v.oneCell'=true:=by
 cases r with
 |p _ _ b=>exact b.one
 |own=>rfl
 |ptr=>rfl
 |fn f _ a _ _=>exact tM f a
 |mp _ _ _ _=>rfl
inductive XF {α β:Type}(R:α->β->Prop):List α->List β->Prop
 |nil:XF R [] []
 |cons {x:α} {y:β} {xs:List α} {ys:List β} (h:R x y) (t:XF R xs ys):XF R (x::xs) (y::ys)
def VL (w:World)(O:BS)(μ:Nat->Nat)(h:HF)(v:Value):DV->Prop
 | .one l=>XP w O μ h v l
 | .agg cs=>∃xs:List Value,v=.agg xs.toArray/\XF (XP w O μ h) xs cs
 | .XY ds=>ds=[]/\v=.tuple #[]
def XC (w:World)(O:BS)(μ:Nat->Nat)(h:HF)(v:Value):DV->Prop
 | .XY ds=>∃xs:List Value,v=.tuple xs.toArray/\XF (VL w O μ h) xs ds
 |d=>VL w O μ h v d
def PG (agg:Bool)(v:Value)(xs:List Value):Prop:=if agg then v=.agg xs.toArray else xs=[v]
def pQ (es:List MapEntry)(clk:Nat):Prop:=es.Pairwise (fun a b=>a.born≠b.born)/\∀e∈es,e.born<clk
def iK (o:Obj):Prop:=(∀C T z,o≠.cells C T z)/\∀es clk,o≠.map es clk
def WI (w:World)(O:BS)(μ:Nat->Nat)(h:HF)(id:Nat)(b:Xz):Prop:=
 if b.mp then if Nat.beq b.ty 2 then∃o,w.heap[μ id]? =some o/\iK o else∃(es:Array MapEntry) (clk:Nat),w.heap[μ id]? =some (.map es clk)/\(b.XZ=0/\pQ es.toList clk)/\
   XF (fun(e:MapEntry) (c:List DL)=>∃kv xv:List Value,e.key=.agg kv.toArray/\PG (Nat.beq b.ty 1) e.val xv/\kv.length=b.sz/\XF (XP w O μ h) (kv++xv) c) es.toList b.ch
 else∃(C:Array Value),w.heap[μ id]? =some (.cells C b.ty (0,0))/\b.ch.length*b.sz<=C.size/\
  ∀(i:Nat) (c:List DL),b.ch[i]? =some c->c.length=b.sz/\∀(j:Nat) (d:DL),c[j]? =some d->∃v,C[i*b.sz+j]? =some v/\XP w O μ h v d
structure X4 (w:World)(O:BS)(μ:Nat->Nat)(h:HF):Prop where
 QW:∀id b,h id=some b->WI w O μ h id b
 inj:∀id id' b b',h id=some b->h id'=some b'->μ id=μ id'->id=id'
 NI:∀id b,h id=some b->¬O (μ id)
 lt:∀b,O b->b<w.heap.size
structure Wo (O:BS)(w:World)(μ:Nat->Nat)(h:HF)(w':World)(μ':Nat->Nat)(h':HF):Prop where
 os:w'.os=w.os
 tape:w'.tape=w.tape
 output:w'.output=w.output
 keeps:S4 w (Live O μ h) w' (Live O μ' h')
 js:∀b,O b->w'.heap[b]? =w.heap[b]?
 ids:∀id b,h id=some b->∃b',h' id=some b'/\b.XZ<=b'.XZ/\b'.mp=b.mp/\
  (b'.XZ=b.XZ->μ' id=μ id/\b'.sz=b.sz/\∀(C:Array Value) (T:TypeId),w.heap[μ id]? =some (.cells C T (0,0))->∃C':Array Value,w'.heap[μ id]? =some (.cells C' T (0,0))/\C'.size=C.size)
 maps:∀id b,h id=some b->b.mp=true->μ' id=μ id
theorem Wo.refl (O:BS)(w:World)(a:Nat->Nat)(h:HF):Wo O w a h w a h:=
 ⟨rfl,rfl,rfl,.refl _ _,fun _ _=>rfl,fun _ b c=>⟨b,c,Zh _,rfl,fun _=>⟨rfl,rfl,fun C _ d=>⟨C,d,rfl⟩⟩⟩,fun _ _ _ _=>rfl⟩
theorem Wo.trans {O:BS}{w v l:World}{A m d:Nat->Nat}{h u i:HF}(a:Wo O w A h v m u)(b:Wo O v m u l d i):Wo O w A h l d i:=by
 refine⟨b.os.trans a.os,b.tape.trans a.tape,b.output.trans a.output,a.keeps.trans b.keeps,fun x g=>(b.js x g).trans (a.js x g),fun id x g=> ?_,fun id x g n=> ?_⟩
 ·obtain⟨y,r,H,n,G⟩:=a.ids id x g;obtain⟨z,I,q,f,p⟩:=b.ids id y r;refine⟨z,I,ZD H q,f.trans n,fun e=> ?_⟩;have e1:y.XZ=x.XZ:=by omega
  have e2:z.XZ=y.XZ:=by omega
  obtain⟨t,K,D⟩:=G e1;obtain⟨J,L,E⟩:=p e2;refine⟨J.trans t,L.trans K,fun C T F=> ?_⟩;obtain⟨B,j,s⟩:=D C T F;rw[<-t]at j;obtain⟨o,c,k⟩:=E B T j;rw[t]at c;exact⟨o,c,k.trans s⟩
 ·obtain⟨y,r,_,f,_⟩:=a.ids id x g;exact(b.maps id y r (f.trans n)).trans (a.maps id x g n)
theorem XP.mono {O:BS}{w H:World}{I s:Nat->Nat}{h G:HF}(m:Wo O w I h H s G){v:Value}{l:DL}(r:XP w O I h v l):XP H O s G v l:=by
 induction r with
 |p v l Q=>exact .p v l (Q.keeps m.keeps)
 |own id XZ j E b g o x n D z B=>
  obtain⟨k,c,d,t,a⟩:=m.ids id b n;refine .own id XZ j E k g o x c (ZD D d) z fun e=> ?_
  have e1:k.XZ=b.XZ:=by omega
  obtain⟨u,F,K⟩:=a e1;obtain⟨P,C,T,M,N⟩:=B (by omega);obtain⟨J,y,R⟩:=K C T M;refine⟨by rw[u];exact P,J,T,by rw[u];exact y,?_⟩;rw[F,R];exact N
 |ptr id XZ i j b g o n D B=>
  obtain⟨k,c,d,t,a⟩:=m.ids id b n;refine .ptr id XZ i j k g o c (ZD D d) fun e=> ?_
  obtain⟨u,F,_⟩:=a (by omega);rw[u,F];exact B (by omega)
 |fn f q L z U S=>exact .fn f q L z S
 |mp id b n t=>
  obtain⟨k,c,_,A,_⟩:=m.ids id b n;rw[<-m.maps id b n t];exact .mp id k c (A.trans t)
theorem XF.imp {c d:Type}{R S:c->d->Prop}{a:List c}{b:List d}(f:∀x y,R x y->S x y)(h:XF R a b):XF S a b:=by
 induction h with
 |nil=>exact .nil
 |cons e _ g=>exact .cons (f _ _ e) g
theorem XF.length {c d:Type}{R:c->d->Prop}{a:List c}{b:List d}(h:XF R a b):a.length=b.length:=by
 induction h with
 |nil=>rfl
 |cons _ _ e=>simp[e]
theorem XF.get {e b:Type}{R:e->b->Prop}{c:List e}{d:List b}(h:XF R c d):∀(i:Nat) (y:b),d[i]? =some y->∃x,c[i]? =some x/\R x y:=by
 induction h with
 |nil=>intro i y a;simp at a
 |cons f _ g=>
  intro i y a;cases i with
  |zero=>simp at a;subst a;exact⟨_,rfl,f⟩
  |succ i=>simpa using g i y (by simpa using a)
theorem XF.VZ {e g:Type}{R:e->g->Prop}:∀{c:List e} {d:List g},c.length=d.length->(∀(i:Nat) (x:e) (y:g),c[i]? =some x->d[i]? =some y->R x y)->XF R c d
 |[],[],_,_=>.nil
 |[],_::_,h,_=>by simp at h
 |_::_,[],h,_=>by simp at h
 |x::c,y::d,h,f=>.cons (f 0 x y rfl rfl) (XF.VZ (by simpa using h) fun i a b j k=>f (i+1) a b (by simpa using j) (by simpa using k))
theorem XF.append {e f:Type}{R:e->f->Prop}{c a:List e}{d b:List f}(h:XF R c d)(k:XF R a b):XF R (c++a) (d++b):=by
 induction h with
 |nil=>exact k
 |cons g _ i=>exact .cons g i
theorem XF.take {c d:Type}{R:c->d->Prop}{a:List c}{b:List d}(h:XF R a b)(n:Nat):XF R (a.take n) (b.take n):=by
 induction h generalizing n with
 |nil=>simp;exact .nil
 |cons e _ f=>cases n with
  |zero=>exact .nil
  |succ n=>exact .cons e (f n)
theorem XF.drop {c d:Type}{R:c->d->Prop}{a:List c}{b:List d}(h:XF R a b)(n:Nat):XF R (a.drop n) (b.drop n):=by
 induction h generalizing n with
 |nil=>simp;exact .nil
 |cons e t f=>cases n with
  |zero=>exact .cons e t
  |succ n=>simpa using f n
theorem VL.mono {O:BS}{w c:World}{e a:Nat->Nat}{h b:HF}(m:Wo O w e h c a b){v:Value}{d:DV}(r:VL w O e h v d):VL c O a b v d:=by
 cases d with
 |one l=>exact XP.mono m r
 |agg j=>obtain⟨i,g,f⟩:=r;exact⟨i,g,f.imp fun _ _=>XP.mono m⟩
 |XY k=>exact r
theorem XC.mono {O:BS}{w c:World}{e a:Nat->Nat}{h b:HF}(m:Wo O w e h c a b){v:Value}{d:DV}(r:XC w O e h v d):XC c O a b v d:=by
 cases d with
 |one l=>exact VL.mono (d:=.one l) m r
 |agg f=>exact VL.mono (d:=.agg f) m r
 |XY k=>obtain⟨j,i,g⟩:=r;exact⟨j,i,g.imp fun _ _=>VL.mono m⟩
theorem XC.Gs {w:World}{O:BS}{a:Nat->Nat}{h:HF}{v:Value}{d:DV}(r:VL w O a h v d):XC w O a h v d:=by
 cases d with
 |one l=>exact r
 |agg b=>exact r
 |XY c=>obtain⟨rfl,rfl⟩:=r;exact⟨[],rfl,.nil⟩
theorem XC.cells {w:World}{O:BS}{c:Nat->Nat}{h:HF}{v:Value}{d:DV}{b:List DL}(r:XC w O c h v d)(a:d.cells=some b):XF (XP w O c h) v.cells.toList b:=by
 cases d with
 |one l=>
  simp[DV.cells]at a;subst a;have f:=XP.one r;have :v.cells=#[v]:=by cases v<;>first |rfl|simp[Value.oneCell']at f
  rw[this];exact .cons r .nil
 |agg e=>
  simp[DV.cells]at a;subst a;obtain⟨i,rfl,g⟩:=r;exact g
 |XY e=>simp[DV.cells]at a
theorem VG (a b:IntKind):dF a b=true↔a=b:=by cases a<;>cases b<;>decide
theorem gx (a b:Int):OX a b=(a==b):=by
 rw[Bool.eq_iff_iff,beq_iff_eq];cases a<;>cases b<;>simp[OX]<;>omega
theorem lj (a b:Int):T5 a b=decide (a<b):=by
 rw[Bool.eq_iff_iff,decide_eq_true_iff];cases a<;>cases b<;>simp[T5,Nat.blt,Nat.ble_eq]<;>omega
theorem y9 (a b:Int):wQ a b=decide (a<=b):=by
 rw[wQ,lj,Bool.eq_iff_iff];simp
theorem ou (k:IntKind):zf k=k.bits:=by cases k<;>rfl
theorem Qc (k:IntKind):S8 k=2^k.bits:=by cases k<;>rfl
theorem q5 (k:IntKind):ly k=k.signed:=by cases k<;>rfl
theorem vO (k:IntKind):S8 k / 2=2^(k.bits-1):=by cases k<;>rfl
theorem oo (k:IntKind):0<S8 k:=by cases k<;>decide
theorem Bk (k:IntKind)(n:Int):WJ k n<S8 k:=by
 have:=oo k;cases n with
 |ofNat m=>exact ZS _ this
 |negSucc m=>simp only[WJ];have:=ZS m this;omega
theorem sH (k:IntKind)(n:Int):(WJ k n:Int)=n%(2^k.bits:Int):=by
 have c:=oo k;have b:(2^k.bits:Int)=(S8 k:Int):=by rw[Qc];simp
 rw[b];cases n with
 |ofNat m=>simp[WJ]
 |negSucc m=>
  simp only[WJ];have d:=ZS m c;have e:=Yw m (S8 k);generalize S8 k=M at *;rw[Int.negSucc_emod _ (by omega)];have a:(m:Int)%(M:Int)=((m%M:Nat):Int):=by simp
  rw[a];omega
theorem PU (k:IntKind)(r:Nat)(h:r<S8 k):UC k r=k.wrap r:=by
 have g:((r:Int)%(2^k.bits:Int))=r:=by
  have c:(2^k.bits:Int)=(S8 k:Int):=by rw[Qc];simp
  rw[c];exact Int.emod_eq_of_lt (by omega) (by omega)
 unfold UC IntKind.wrap;rw[g,q5,vO];have c:((2:Int)^k.bits)=(S8 k:Int):=by rw[Qc];simp
 have f:((2:Int)^(k.bits-1))=((2^(k.bits-1):Nat):Int):=by simp
 simp only[c,f];cases i:k.signed
 ·simp
 ·by_cases d:2^(k.bits-1)<=r
  ·have a:Nat.ble (2^(k.bits-1)) r=true:=by rw[Nat.ble_eq];exact d
   have b:((r:Int)≥((2^(k.bits-1):Nat):Int)):=by omega
   rw[a,if_pos (by simp only[Bool.true_and];exact decide_eq_true b)];show Int.negSucc (S8 k-r-1)=_;rw[Int.negSucc_eq];omega
  ·have a:Nat.ble (2^(k.bits-1)) r=false:=by
    cases e:Nat.ble (2^(k.bits-1)) r
    ·rfl
    ·rw[Nat.ble_eq]at e;exact absurd e d
   have b:¬((r:Int)≥((2^(k.bits-1):Nat):Int)):=by omega
   rw[a,if_neg (by simp only[Bool.true_and,decide_eq_true_iff];exact b)];rfl
theorem uu (k:IntKind)(n:Int):k.wrap (n%(2^k.bits:Int))=k.wrap n:=by
 unfold IntKind.wrap;simp
theorem SK (k:IntKind)(n:Int):Xe k n=k.wrap n:=by
 rw[Xe,PU k _ (Bk k n),sH,uu]
theorem AY (a:Int)(n:Nat):AZ a n=a.fdiv (2^n):=by
 have b:((2:Int)^n)=((2^n:Nat):Int):=by simp
 have c:0<2^n:=Nat.pow_pos (by decide);rw[b];cases a with
 |ofNat m=>simp only[AZ];cases m<;>simp[Int.fdiv]
 |negSucc m=>
  simp only[AZ];generalize 2^n=M at *;obtain⟨q,rfl⟩:∃q,M=q+1:=⟨M-1,by omega⟩;rfl
theorem S0 (k:IntKind)(n:Int):(BitVec.ofInt k.bits n).toNat=WJ k n:=by
 have h:=sH k n;rw[BitVec.toNat_ofInt];rw[show((2^k.bits:Nat):Int)=(2^k.bits:Int)by simp,<-h];simp
theorem and_eq (k:IntKind)(a b:Int):UC k (Nat.land (WJ k a) (WJ k b))=k.wrap ((BitVec.ofInt k.bits a&&&BitVec.ofInt k.bits b).toNat:Int):=by
 have e:(BitVec.ofInt k.bits a&&&BitVec.ofInt k.bits b).toNat=Nat.land (WJ k a) (WJ k b):=by rw[BitVec.toNat_and,S0,S0];rfl
 rw[<-e,PU _ _ (by rw[Qc];exact BitVec.isLt _)]
theorem or_eq (k:IntKind)(a b:Int):UC k (Nat.lor (WJ k a) (WJ k b))=k.wrap ((BitVec.ofInt k.bits a|||BitVec.ofInt k.bits b).toNat:Int):=by
 have e:(BitVec.ofInt k.bits a|||BitVec.ofInt k.bits b).toNat=Nat.lor (WJ k a) (WJ k b):=by rw[BitVec.toNat_or,S0,S0];rfl
 rw[<-e,PU _ _ (by rw[Qc];exact BitVec.isLt _)]
theorem xor_eq (k:IntKind)(a b:Int):UC k (Nat.xor (WJ k a) (WJ k b))=k.wrap ((BitVec.ofInt k.bits a^^^BitVec.ofInt k.bits b).toNat:Int):=by
 have e:(BitVec.ofInt k.bits a^^^BitVec.ofInt k.bits b).toNat=Nat.xor (WJ k a) (WJ k b):=by rw[BitVec.toNat_xor,S0,S0];rfl
 rw[<-e,PU _ _ (by rw[Qc];exact BitVec.isLt _)]
theorem vw (k:IntKind)(b:Int):(~~~ BitVec.ofInt k.bits b).toNat=Nat.xor (S8 k-1) (WJ k b):=by
 rw[<-S0,Qc];have :(2^k.bits-1:Nat)=(BitVec.allOnes k.bits).toNat:=by simp
 rw[this];show _=((BitVec.allOnes k.bits).toNat^^^(BitVec.ofInt k.bits b).toNat);rw[<-BitVec.toNat_xor,BitVec.allOnes_xor]
theorem wI (k:IntKind)(a b:Int):UC k (Nat.land (WJ k a) (Nat.xor (S8 k-1) (WJ k b)))=k.wrap ((BitVec.ofInt k.bits a&&&~~~ BitVec.ofInt k.bits b).toNat:Int):=by
 have e:(BitVec.ofInt k.bits a&&&~~~ BitVec.ofInt k.bits b).toNat=Nat.land (WJ k a) (Nat.xor (S8 k-1) (WJ k b)):=by rw[BitVec.toNat_and,S0,vw];rfl
 rw[<-e,PU _ _ (by rw[Qc];exact BitVec.isLt _)]
theorem wV (k:IntKind)(n:Int):UC k (Nat.xor (S8 k-1) (WJ k n))=k.wrap ((BitVec.ofInt k.bits (if k.signed then -1 else k.max)^^^BitVec.ofInt k.bits n).toNat:Int):=by
 have e:WJ k (if k.signed then -1 else k.max)=S8 k-1:=by cases k<;>rfl
 rw[<-e,xor_eq]
end Go.Ev
