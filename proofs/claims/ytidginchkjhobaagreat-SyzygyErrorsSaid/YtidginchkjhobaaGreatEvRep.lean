/- How abstract values stand for values in a world; what stays when the world grows. -/
import Derived.Test.YtidginchkjhobaaGreatEvDef
namespace Go.Ev
open Go.RowKit
abbrev BS:=Nat->Prop
def wk (f:Nat)(cv:List Value):Value:=bif Nat.blt f NA then .func (.func f) #[] cv.toArray else .func (.func (f-NA)) cv.toArray #[]
theorem uc (f:Nat)(a:List Value):(wk f a).oneCell'=true:=by
 unfold wk;cases Nat.blt f NA<;>rfl
theorem jH {f:Nat}(h:Nat.blt f NA=true)(a:List Value):wk f a=.func (.func f) #[] a.toArray:=by
 simp only[wk,h,cond_true]
theorem CE {f:Nat}(h:Nat.blt f NA=false)(a:List Value):wk f a=.func (.func (f-NA)) a.toArray #[]:=by
 simp only[wk,h,cond_false]
theorem jI (f:Nat)(c:List Value):∃g a b,wk f c=.func (.func g) a b:=by
 cases h:Nat.blt f NA with
 |true=>exact⟨_,_,_,jH h c⟩
 |false=>exact⟨_,_,_,CE h c⟩
inductive Wt (w:World)(O:BS):Value->PL->Prop
 |bool (b:Bool):Wt w O (.bool b) (.bool b)
 |int (k:IntKind) (n:Int):Wt w O (.int k n) (.int k n)
 |XC:Wt w O (.slice none 0 0) .XC
 |str (s:ByteArray):Wt w O (.string s) (.str (s.data.toList.map UInt8.toNat))
 |RB (v:Value) (h:v.oneCell'=true):Wt w O v .RB
 |fn (f:Nat) (caps:List PL) (cv:List Value) (hl:cv.length=caps.length)
   (hc:∀(i:Nat) (d:PL) (v:Value),caps[i]? =some d->cv[i]? =some v->Wt w O v d):Wt w O (wk f cv) (.fn f caps)
 |ref (b off:Nat) (cs:List PL) (vals:Nat->Value) (ho:∀(j:Nat) (d:PL),cs[j]? =some d->¬O b)
   (hc:∀(j:Nat) (d:PL),cs[j]? =some d->w.cell? ⟨b,off+j,none⟩=some (vals j))
   (hr:∀(j:Nat) (d:PL),cs[j]? =some d->Wt w O (vals j) d):Wt w O (.pointer (some ⟨b,off,none⟩)) (.ref cs)
 |Xp {sp:Option Nat} (b off sz cap:Nat) (es:List (List PL)) (vals:Nat->Nat->Value) (ho:∀(i:Nat) (c:List PL) (j:Nat) (d:PL),es[i]? =some c->c[j]? =some d->¬O b) (hcap:es.length<=cap)
   (hs:∀(i:Nat) (c:List PL),es[i]? =some c->c.length=sz)
   (hc:∀(i:Nat) (c:List PL) (j:Nat) (d:PL),es[i]? =some c->c[j]? =some d->w.cell? ⟨b,off+i*sz+j,none⟩=some (vals i j))
   (hr:∀(i:Nat) (c:List PL) (j:Nat) (d:PL),es[i]? =some c->c[j]? =some d->Wt w O (vals i j) d) (hsp:es=[]\/sp=none):
   Wt w O (.slice (some ⟨b,off,sp⟩) es.length cap) (.Xp es)
theorem Wt.one {w:World}{O:BS}{v:Value}{l:PL}(h:Wt w O v l):v.oneCell'=true:=by
 cases h<;>first |rfl|assumption|exact uc _ _
structure S4 (w:World)(L:BS)(w':World)(L':BS):Prop where
 size:w.heap.size<=w'.heap.size
 VW:∀b,b<w.heap.size->¬L b->w'.heap[b]? =w.heap[b]?
 live:∀b,L' b->L b\/w.heap.size<=b
theorem S4.cell {w c:World}{L d:BS}(h:S4 w L c d){b o:Nat}{v:Value}(e:¬L b)(a:w.cell? ⟨b,o,none⟩=some v):c.cell? ⟨b,o,none⟩=some v:=
 (World.cell?_of_block (h.VW b (World.block_lt_of_cell? w _ a) e)).trans a
theorem S4.out {w f:World}{L a:BS}(h:S4 w L f a){b o:Nat}{v:Value}(c:¬L b)(d:w.cell? ⟨b,o,none⟩=some v):¬a b:=by
 intro e;have:=World.block_lt_of_cell? w _ d;rcases h.live b e with h1|h1
 ·exact c h1
 ·simp at this;omega
theorem S4.refl (w:World)(L:BS):S4 w L w L:=⟨Zh _,fun _ _ _=>rfl,fun _ h=>.inl h⟩
theorem S4.trans {w i c:World}{L f a:BS}(h:S4 w L i f)(k:S4 i f c a):S4 w L c a:=by
 refine⟨Zy h.size k.size,fun b g d=> ?_,fun b d=> ?_⟩
 ·refine(k.VW b (Z2 g h.size) fun e=> ?_).trans (h.VW b g d);rcases h.live b e with h1|h1
  ·exact d h1
  ·omega
 ·rcases k.live b d with h1|h1
  ·exact h.live b h1
  ·exact .inr (Zy h.size h1)
theorem Wt.keeps {w A:World}{L z:BS}(k:S4 w L A z){v:Value}{l:PL}(h:Wt w L v l):Wt A z v l:=by
 induction h with
 |bool b=>exact .bool b
 |int a n=>exact .int a n
 |XC=>exact .XC
 |str s=>exact .str s
 |RB v h=>exact .RB v h
 |fn f p C E o u=>exact .fn f p C E u
 |ref b m B g t o F u=>
  exact .ref b m B g (fun j d e=>k.out (t j d e) (o j d e)) (fun j d e=>k.cell (t j d e) (o j d e)) u
 |Xp b m H x D g t q G o F y u=>
  exact .Xp b m H x D g (fun i c j d r e=>k.out (t i c j d r e) (o i c j d r e)) q G
   (fun i c j d r e=>k.cell (t i c j d r e) (o i c j d r e)) u y
def Live (O:BS)(μ:Nat->Nat)(h:HF):BS:=fun b=>O b\/∃id QG,h id=some QG/\QG.fz=false/\μ id=b
inductive XL (w:World)(O:BS)(μ:Nat->Nat)(h:HF):Value->DL->Prop
 |p (v:Value) (l:PL) (hp:Wt w (Live O μ h) v l):XL w O μ h v (.p l)
 |own (id XX off len:Nat) (b:Xz) (g o cap:Nat) (hb:h id=some b) (hv:XX<=b.XX) (hl:len<=cap)
   (hs:XX=b.XX->g=μ id/\∃(C:Array Value) (T:TypeId),w.heap[μ id]? =some (.cells C T (0,0))/\
    ((o=off*b.sz/\(off+cap)*b.sz=C.size/\cap<=maxLen)\/(len=0/\cap=0/\0<off))):XL w O μ h (.slice (some ⟨g,o,none⟩) len cap) (.own id XX off len)
 |ptr (id XX i off:Nat) (b:Xz) (g o:Nat) (hb:h id=some b) (hv:XX<=b.XX)
   (hs:XX=b.XX->g=μ id/\o=i*b.sz+off):XL w O μ h (.pointer (some ⟨g,o,none⟩)) (.ptr id XX i off)
 |fn (f:Nat) (caps:List DL) (cv:List Value) (hl:cv.length=caps.length)
   (hc:∀(i:Nat) (d:DL) (v:Value),caps[i]? =some d->cv[i]? =some v->XL w O μ h v d):XL w O μ h (wk f cv) (.fn f caps)
 |mp (id:Nat) (b:Xz) (hb:h id=some b) (hm:b.mp=true):XL w O μ h (.map (some (μ id))) (.mp id)
theorem XL.one {w:World}{O:BS}{c:Nat->Nat}{h:HF}{v:Value}{l:DL}(r:XL w O c h v l):v.oneCell'=true:=by
 cases r with
 |p _ _ b=>exact b.one
 |own=>rfl
 |ptr=>rfl
 |fn f _ a _ _=>exact uc f a
 |mp _ _ _ _=>rfl
inductive XF {α β:Type}(R:α->β->Prop):List α->List β->Prop
 |nil:XF R [] []
 |cons {x:α} {y:β} {xs:List α} {ys:List β} (h:R x y) (t:XF R xs ys):XF R (x::xs) (y::ys)
def VJ (w:World)(O:BS)(μ:Nat->Nat)(h:HF)(v:Value):DV->Prop
 | .one l=>XL w O μ h v l
 | .agg cs=>∃xs:List Value,v=.agg xs.toArray/\XF (XL w O μ h) xs cs
 | .XZ ds=>ds=[]/\v=.tuple #[]
def XB (w:World)(O:BS)(μ:Nat->Nat)(h:HF)(v:Value):DV->Prop
 | .XZ ds=>∃xs:List Value,v=.tuple xs.toArray/\XF (VJ w O μ h) xs ds
 |d=>VJ w O μ h v d
def Pq (agg:Bool)(v:Value)(xs:List Value):Prop:=if agg then v=.agg xs.toArray else xs=[v]
def qf (es:List MapEntry)(clk:Nat):Prop:=es.Pairwise (fun a b=>a.born≠b.born)/\∀e∈es,e.born<clk
def iK (o:Obj):Prop:=(∀C T z,o≠.cells C T z)/\∀es clk,o≠.map es clk
def WJ (w:World)(O:BS)(μ:Nat->Nat)(h:HF)(id:Nat)(b:Xz):Prop:=
 if b.mp then if Nat.beq b.ty 2 then∃o,w.heap[μ id]? =some o/\iK o else∃(es:Array MapEntry) (clk:Nat),w.heap[μ id]? =some (.map es clk)/\(b.XX=0/\qf es.toList clk)/\
   XF (fun(e:MapEntry) (c:List DL)=>∃kv xv:List Value,e.key=.agg kv.toArray/\Pq (Nat.beq b.ty 1) e.val xv/\kv.length=b.sz/\XF (XL w O μ h) (kv++xv) c) es.toList b.ch
 else∃(C:Array Value),w.heap[μ id]? =some (.cells C b.ty (0,0))/\b.ch.length*b.sz<=C.size/\
  ∀(i:Nat) (c:List DL),b.ch[i]? =some c->c.length=b.sz/\∀(j:Nat) (d:DL),c[j]? =some d->∃v,C[i*b.sz+j]? =some v/\XL w O μ h v d
structure X0 (w:World)(O:BS)(μ:Nat->Nat)(h:HF):Prop where
 QG:∀id b,h id=some b->WJ w O μ h id b
 inj:∀id id' b b',h id=some b->h id'=some b'->μ id=μ id'->id=id'
 Nt:∀id b,h id=some b->¬O (μ id)
 lt:∀b,O b->b<w.heap.size
structure WD (O:BS)(w:World)(μ:Nat->Nat)(h:HF)(w':World)(μ':Nat->Nat)(h':HF):Prop where
 os:w'.os=w.os
 tape:w'.tape=w.tape
 output:w'.output=w.output
 keeps:S4 w (Live O μ h) w' (Live O μ' h')
 jn:∀b,O b->w'.heap[b]? =w.heap[b]?
 ids:∀id b,h id=some b->∃b',h' id=some b'/\b.XX<=b'.XX/\b'.mp=b.mp/\
  (b'.XX=b.XX->μ' id=μ id/\b'.sz=b.sz/\∀(C:Array Value) (T:TypeId),w.heap[μ id]? =some (.cells C T (0,0))->∃C':Array Value,w'.heap[μ id]? =some (.cells C' T (0,0))/\C'.size=C.size)
 maps:∀id b,h id=some b->b.mp=true->μ' id=μ id
theorem WD.refl (O:BS)(w:World)(a:Nat->Nat)(h:HF):WD O w a h w a h:=
 ⟨rfl,rfl,rfl,.refl _ _,fun _ _=>rfl,fun _ b c=>⟨b,c,Zh _,rfl,fun _=>⟨rfl,rfl,fun C _ d=>⟨C,d,rfl⟩⟩⟩,fun _ _ _ _=>rfl⟩
theorem WD.trans {O:BS}{w v l:World}{A m d:Nat->Nat}{h u i:HF}(a:WD O w A h v m u)(b:WD O v m u l d i):WD O w A h l d i:=by
 refine⟨b.os.trans a.os,b.tape.trans a.tape,b.output.trans a.output,a.keeps.trans b.keeps,fun x g=>(b.jn x g).trans (a.jn x g),fun id x g=> ?_,fun id x g n=> ?_⟩
 ·obtain⟨y,r,H,n,G⟩:=a.ids id x g;obtain⟨z,I,q,f,p⟩:=b.ids id y r;refine⟨z,I,Zy H q,f.trans n,fun e=> ?_⟩;have e1:y.XX=x.XX:=by omega
  have e2:z.XX=y.XX:=by omega
  obtain⟨t,K,D⟩:=G e1;obtain⟨J,L,E⟩:=p e2;refine⟨J.trans t,L.trans K,fun C T F=> ?_⟩;obtain⟨B,j,s⟩:=D C T F;rw[<-t]at j;obtain⟨o,c,k⟩:=E B T j;rw[t]at c;exact⟨o,c,k.trans s⟩
 ·obtain⟨y,r,_,f,_⟩:=a.ids id x g;exact(b.maps id y r (f.trans n)).trans (a.maps id x g n)
theorem XL.mono {O:BS}{w H:World}{I s:Nat->Nat}{h G:HF}(m:WD O w I h H s G){v:Value}{l:DL}(r:XL w O I h v l):XL H O s G v l:=by
 induction r with
 |p v l Q=>exact .p v l (Q.keeps m.keeps)
 |own id XX j E b g o x n D z B=>
  obtain⟨k,c,d,t,a⟩:=m.ids id b n;refine .own id XX j E k g o x c (Zy D d) z fun e=> ?_
  have e1:k.XX=b.XX:=by omega
  obtain⟨u,F,K⟩:=a e1;obtain⟨P,C,T,M,N⟩:=B (by omega);obtain⟨J,y,R⟩:=K C T M;refine⟨by rw[u];exact P,J,T,by rw[u];exact y,?_⟩;rw[F,R];exact N
 |ptr id XX i j b g o n D B=>
  obtain⟨k,c,d,t,a⟩:=m.ids id b n;refine .ptr id XX i j k g o c (Zy D d) fun e=> ?_
  obtain⟨u,F,_⟩:=a (by omega);rw[u,F];exact B (by omega)
 |fn f q L z U S=>exact .fn f q L z S
 |mp id b n t=>
  obtain⟨k,c,_,A,_⟩:=m.ids id b n;rw[<-m.maps id b n t];exact .mp id k c (A.trans t)
theorem XF.imp {c d:Type}{R S:c->d->Prop}{a:List c}{b:List d}(f:∀x y,R x y->S x y)(h:XF R a b):XF S a b:=by
 induction h with
 |nil=>exact .nil
 |cons e _ g=>exact .cons (f _ _ e) g
theorem XF.length {c d:Type}{R:c->d->Prop}{a:List c}{b:List d}(h:XF R a b):a.length=b.length:=by
 induction h with
 |nil=>rfl
 |cons _ _ e=>simp[e]
theorem XF.get {e b:Type}{R:e->b->Prop}{c:List e}{d:List b}(h:XF R c d):∀(i:Nat) (y:b),d[i]? =some y->∃x,c[i]? =some x/\R x y:=by
 induction h with
 |nil=>intro i y a;simp at a
 |cons f _ g=>
  intro i y a;cases i with
  |zero=>simp at a;subst a;exact⟨_,rfl,f⟩
  |succ i=>simpa using g i y (by simpa using a)
theorem XF.VS {e g:Type}{R:e->g->Prop}:∀{c:List e} {d:List g},c.length=d.length->(∀(i:Nat) (x:e) (y:g),c[i]? =some x->d[i]? =some y->R x y)->XF R c d
 |[],[],_,_=>.nil
 |[],_::_,h,_=>by simp at h
 |_::_,[],h,_=>by simp at h
 |x::c,y::d,h,f=>.cons (f 0 x y rfl rfl) (XF.VS (by simpa using h) fun i a b j k=>f (i+1) a b (by simpa using j) (by simpa using k))
theorem XF.append {e f:Type}{R:e->f->Prop}{c a:List e}{d b:List f}(h:XF R c d)(k:XF R a b):XF R (c++a) (d++b):=by
 induction h with
 |nil=>exact k
 |cons g _ i=>exact .cons g i
theorem XF.take {c d:Type}{R:c->d->Prop}{a:List c}{b:List d}(h:XF R a b)(n:Nat):XF R (a.take n) (b.take n):=by
 induction h generalizing n with
 |nil=>simp;exact .nil
 |cons e _ f=>cases n with
  |zero=>exact .nil
  |succ n=>exact .cons e (f n)
theorem XF.drop {c d:Type}{R:c->d->Prop}{a:List c}{b:List d}(h:XF R a b)(n:Nat):XF R (a.drop n) (b.drop n):=by
 induction h generalizing n with
 |nil=>simp;exact .nil
 |cons e t f=>cases n with
  |zero=>exact .cons e t
  |succ n=>simpa using f n
theorem VJ.mono {O:BS}{w c:World}{e a:Nat->Nat}{h b:HF}(m:WD O w e h c a b){v:Value}{d:DV}(r:VJ w O e h v d):VJ c O a b v d:=by
 cases d with
 |one l=>exact XL.mono m r
 |agg j=>obtain⟨i,g,f⟩:=r;exact⟨i,g,f.imp fun _ _=>XL.mono m⟩
 |XZ k=>exact r
theorem XB.mono {O:BS}{w c:World}{e a:Nat->Nat}{h b:HF}(m:WD O w e h c a b){v:Value}{d:DV}(r:XB w O e h v d):XB c O a b v d:=by
 cases d with
 |one l=>exact VJ.mono (d:=.one l) m r
 |agg f=>exact VJ.mono (d:=.agg f) m r
 |XZ k=>obtain⟨j,i,g⟩:=r;exact⟨j,i,g.imp fun _ _=>VJ.mono m⟩
theorem XB.Gb {w:World}{O:BS}{a:Nat->Nat}{h:HF}{v:Value}{d:DV}(r:VJ w O a h v d):XB w O a h v d:=by
 cases d with
 |one l=>exact r
 |agg b=>exact r
 |XZ c=>obtain⟨rfl,rfl⟩:=r;exact⟨[],rfl,.nil⟩
theorem XB.cells {w:World}{O:BS}{c:Nat->Nat}{h:HF}{v:Value}{d:DV}{b:List DL}(r:XB w O c h v d)(a:d.cells=some b):XF (XL w O c h) v.cells.toList b:=by
 cases d with
 |one l=>
  simp[DV.cells]at a;subst a;have f:=XL.one r;have :v.cells=#[v]:=by cases v<;>first |rfl|simp[Value.oneCell']at f
  rw[this];exact .cons r .nil
 |agg e=>
  simp[DV.cells]at a;subst a;obtain⟨i,rfl,g⟩:=r;exact g
 |XZ e=>simp[DV.cells]at a
theorem VB (a b:IntKind):dG a b=true↔a=b:=by cases a<;>cases b<;>decide
theorem cc (a b:Int):Pc a b=(a==b):=by
 rw[Bool.eq_iff_iff,beq_iff_eq];cases a<;>cases b<;>simp[Pc]<;>omega
theorem lD (a b:Int):Tf a b=decide (a<b):=by
 rw[Bool.eq_iff_iff,decide_eq_true_iff];cases a<;>cases b<;>simp[Tf,Nat.blt,Nat.ble_eq]<;>omega
theorem y9 (a b:Int):tQ a b=decide (a<=b):=by
 rw[tQ,lD,Bool.eq_iff_iff];simp
theorem oF (k:IntKind):zg k=k.bits:=by cases k<;>rfl
theorem RY (k:IntKind):S6 k=2^k.bits:=by cases k<;>rfl
theorem rB (k:IntKind):lG k=k.signed:=by cases k<;>rfl
theorem v7 (k:IntKind):S6 k / 2=2^(k.bits-1):=by cases k<;>rfl
theorem oC (k:IntKind):0<S6 k:=by cases k<;>decide
theorem Ba (k:IntKind)(n:Int):WK k n<S6 k:=by
 have:=oC k;cases n with
 |ofNat m=>exact ZY _ this
 |negSucc m=>simp only[WK];have:=ZY m this;omega
theorem sY (k:IntKind)(n:Int):(WK k n:Int)=n%(2^k.bits:Int):=by
 have c:=oC k;have b:(2^k.bits:Int)=(S6 k:Int):=by rw[RY];simp
 rw[b];cases n with
 |ofNat m=>simp[WK]
 |negSucc m=>
  simp only[WK];have d:=ZY m c;have e:=YC m (S6 k);generalize S6 k=M at *;rw[Int.negSucc_emod _ (by omega)];have a:(m:Int)%(M:Int)=((m%M:Nat):Int):=by simp
  rw[a];omega
theorem PC (k:IntKind)(r:Nat)(h:r<S6 k):UB k r=k.wrap r:=by
 have g:((r:Int)%(2^k.bits:Int))=r:=by
  have c:(2^k.bits:Int)=(S6 k:Int):=by rw[RY];simp
  rw[c];exact Int.emod_eq_of_lt (by omega) (by omega)
 unfold UB IntKind.wrap;rw[g,rB,v7];have c:((2:Int)^k.bits)=(S6 k:Int):=by rw[RY];simp
 have f:((2:Int)^(k.bits-1))=((2^(k.bits-1):Nat):Int):=by simp
 simp only[c,f];cases i:k.signed
 ·simp
 ·by_cases d:2^(k.bits-1)<=r
  ·have a:Nat.ble (2^(k.bits-1)) r=true:=by rw[Nat.ble_eq];exact d
   have b:((r:Int)≥((2^(k.bits-1):Nat):Int)):=by omega
   rw[a,if_pos (by simp only[YF];exact decide_eq_true b)];show Int.negSucc (S6 k-r-1)=_;rw[Int.negSucc_eq];omega
  ·have a:Nat.ble (2^(k.bits-1)) r=false:=by
    cases e:Nat.ble (2^(k.bits-1)) r
    ·rfl
    ·rw[Nat.ble_eq]at e;exact absurd e d
   have b:¬((r:Int)≥((2^(k.bits-1):Nat):Int)):=by omega
   rw[a,if_neg (by simp only[YF,decide_eq_true_iff];exact b)];rfl
theorem uG (k:IntKind)(n:Int):k.wrap (n%(2^k.bits:Int))=k.wrap n:=by
 unfold IntKind.wrap;simp
theorem SI (k:IntKind)(n:Int):Xe k n=k.wrap n:=by
 rw[Xe,PC k _ (Ba k n),sY,uG]
theorem AW (a:Int)(n:Nat):AX a n=a.fdiv (2^n):=by
 have b:((2:Int)^n)=((2^n:Nat):Int):=by simp
 have c:0<2^n:=YL (by decide);rw[b];cases a with
 |ofNat m=>simp only[AX];cases m<;>simp[Int.fdiv]
 |negSucc m=>
  simp only[AX];generalize 2^n=M at *;obtain⟨q,rfl⟩:∃q,M=q+1:=⟨M-1,by omega⟩;rfl
theorem S1 (k:IntKind)(n:Int):(BitVec.ofInt k.bits n).toNat=WK k n:=by
 have h:=sY k n;rw[BitVec.toNat_ofInt];rw[show((2^k.bits:Nat):Int)=(2^k.bits:Int)by simp,<-h];simp
theorem and_eq (k:IntKind)(a b:Int):UB k (Nat.land (WK k a) (WK k b))=k.wrap ((BitVec.ofInt k.bits a&&&BitVec.ofInt k.bits b).toNat:Int):=by
 have e:(BitVec.ofInt k.bits a&&&BitVec.ofInt k.bits b).toNat=Nat.land (WK k a) (WK k b):=by rw[BitVec.toNat_and,S1,S1];rfl
 rw[<-e,PC _ _ (by rw[RY];exact BitVec.isLt _)]
theorem or_eq (k:IntKind)(a b:Int):UB k (Nat.lor (WK k a) (WK k b))=k.wrap ((BitVec.ofInt k.bits a|||BitVec.ofInt k.bits b).toNat:Int):=by
 have e:(BitVec.ofInt k.bits a|||BitVec.ofInt k.bits b).toNat=Nat.lor (WK k a) (WK k b):=by rw[BitVec.toNat_or,S1,S1];rfl
 rw[<-e,PC _ _ (by rw[RY];exact BitVec.isLt _)]
theorem xor_eq (k:IntKind)(a b:Int):UB k (Nat.xor (WK k a) (WK k b))=k.wrap ((BitVec.ofInt k.bits a^^^BitVec.ofInt k.bits b).toNat:Int):=by
 have e:(BitVec.ofInt k.bits a^^^BitVec.ofInt k.bits b).toNat=Nat.xor (WK k a) (WK k b):=by rw[BitVec.toNat_xor,S1,S1];rfl
 rw[<-e,PC _ _ (by rw[RY];exact BitVec.isLt _)]
theorem vK (k:IntKind)(b:Int):(~~~ BitVec.ofInt k.bits b).toNat=Nat.xor (S6 k-1) (WK k b):=by
 rw[<-S1,RY];have :(2^k.bits-1:Nat)=(BitVec.allOnes k.bits).toNat:=by simp
 rw[this];show _=((BitVec.allOnes k.bits).toNat^^^(BitVec.ofInt k.bits b).toNat);rw[<-BitVec.toNat_xor,BitVec.allOnes_xor]
theorem wQ (k:IntKind)(a b:Int):UB k (Nat.land (WK k a) (Nat.xor (S6 k-1) (WK k b)))=k.wrap ((BitVec.ofInt k.bits a&&&~~~ BitVec.ofInt k.bits b).toNat:Int):=by
 have e:(BitVec.ofInt k.bits a&&&~~~ BitVec.ofInt k.bits b).toNat=Nat.land (WK k a) (Nat.xor (S6 k-1) (WK k b)):=by rw[BitVec.toNat_and,S1,vK];rfl
 rw[<-e,PC _ _ (by rw[RY];exact BitVec.isLt _)]
theorem xn (k:IntKind)(n:Int):UB k (Nat.xor (S6 k-1) (WK k n))=k.wrap ((BitVec.ofInt k.bits (if k.signed then -1 else k.max)^^^BitVec.ofInt k.bits n).toNat:Int):=by
 have e:WK k (if k.signed then -1 else k.max)=S6 k-1:=by cases k<;>rfl
 rw[<-e,xor_eq]
end Go.Ev
