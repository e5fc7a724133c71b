/- The library's sort, as a call over the caller's blocks: the chunks of a slice end up in the one order in which they are sorted. -/
import Derived.Test.YtidginchkjhobaaGreatEvTop
import Derived.Test.YtidginchkjhobaaGreatEvDrawn
import Derived.Lib.QuietBelow
import Derived.Shelf.SlSortCmp.NoneTotal
set_option maxHeartbeats 16000000
namespace Go.Ev
open Go.RowKit Go.Shelf Go.Lib Go.Sort Go.Proofs
section
variable {P:Program}{O:BS}{w:World}{μ:Nat->Nat}{h:HF}
theorem tb {g:Nat}{a:N'}{j:List Value}{x y:N'}{f i:List Value}{z:Int}{W:World}{L:BS}(w:CC P g (.agg x::.agg y::a.map .one) (.one (.int .i64 z)))
  (E:∀b,L b->b<W.heap.size) (G:XB (Ws W L) f x) (H:XB (Ws W L) i y) (l:XB (Ws W L) j a):
  Calls P g (#[.agg f.toArray,.agg i.toArray]++j.toArray) W fun e k=>e=.returned (.int .i64 z)/\∃q t,k=grow (W.drewN q) t:=by
 have lift:∀{u:List Value} {s:N'},XB (Ws W L) u s->XB (XE W L μ0 h0) u (s.map .p):=by
  intro u s C;induction C with
  |nil=>exact .nil
  |cons h _ r=>exact .cons (.p _ _ (by rw[TP];exact h)) r
 have c:XB (fun v p=>XA W L μ0 h0 v (inj p)) (.agg f.toArray::.agg i.toArray::j) (.agg x::.agg y::a.map .one):=by
  refine .cons ⟨f,rfl,lift G⟩ (.cons ⟨i,rfl,lift H⟩ ?_);clear w;induction l with
  |nil=>exact .nil
  |cons h _ r=>exact .cons (XE.p _ _ (by rw[TP];exact h)) r
 have A:=w W L _ E c;have B:=tp A (fun e k ⟨v,m,_⟩=>⟨v,m⟩);have e:(#[.agg f.toArray,.agg i.toArray]++j.toArray)=(Value.agg f.toArray::.agg i.toArray::j).toArray:=by simp
 rw[e];refine B.mono fun e k ⟨⟨v,m,F,D⟩,I⟩=> ?_
 have o:v=.int .i64 z:=by
  cases F with
  |p _ _ n=>cases n;rfl
 subst o;refine⟨m,?_⟩;obtain⟨p,n⟩:=regrown_of_below D;refine⟨p.d-W.drawn,p.os,?_⟩;have :k.drawn=p.d:=by rw[n];rfl
 grind [redrawn,World.drewN]
theorem Wr.B9 {id:Nat}{b:Xx}(g:b.mp=false){C:Array Value}(a:w.heap[μ id]? =some (.cells C b.ty (0,0)))(f:b.ch.length*b.sz<=C.size)
  (e:∀(i:Nat) (c:Y'),b.ch[i]? =some c->c.length=b.sz/\∀(j:Nat) (d:DL),c[j]? =some d->∃v,C[i*b.sz+j]? =some v/\XE w O μ h v d):Wr w O μ h id b:=by grind [Wr]
theorem U4 {d:Type}[Inhabited d](c:d->List Value)(k:Nat)(w:World)(a m:Nat)(e:Array d)(g:Array Obj)(b:Nat)(h:b<w.heap.size)(f:b≠a):(sortWorldK c k w a 0 m e g).heap[b]? =w.heap[b]? :=by
 unfold sortWorldK grow putRowK putRow mapBlock Sort.ahead
 grind
theorem NW {c:Type}[Inhabited c](b:c->List Value)(k:Nat)(w:World)(a m:Nat)(d:Array c)(g:Array Obj){C:Array Value}{T:TypeId}(e:w.heap[a]? =some (.cells C T (0,0))):
  (sortWorldK b k w a 0 m d g).heap[a]? =some (.cells (putCells id 0 (flatK b k d) C) T (0,0)):=by
 have f:a<w.heap.size:=(Ya.1 e).1;unfold sortWorldK grow putRowK putRow mapBlock Sort.ahead;rw[Array.getElem?_append_left (by simpa using f),Array.getElem?_modify,if_pos rfl,e];rfl
theorem R2 {b:Type}(a:Array b){n:Nat}(h:a.size=n):a.extract 0 n=a:=by grind
def Vf (C:Array Value)(k:Nat)(i:Nat):List Value:=(C.toList.drop (i*k)).take k
theorem Qv {C:Array Value}{k n i:Nat}(h:n*k<=C.size)(a:i<n):(Vf C k i).length=k:=by
 have:=Zn k (show i+1<=n from a);rw[ZG,Z4]at this
 grind [Vf]
theorem Qw {C:Array Value}{k i j:Nat}(a:j<k):(Vf C k i)[j]? =C[i*k+j]? :=by simp_all [Vf]
theorem jA {k n t:Nat}(h:t<n*k):t / k<n/\t%k<k/\t / k*k+t%k=t:=by
 have a:0<k:=by
  grind
 exact⟨Yl (by grind),Z1 _ a,Nat.div_add_mod' t k⟩
theorem bY {n k:Nat}[Inhabited (Fin n)]{C:Array Value}(h:n*k<=C.size)(a:Array (Fin n))(b:a.size=n){t:Nat}(c:t<n*k):
  some ((flatK (fun i:Fin n=>Vf C k i) k a)[t]!)=C[(a[t / k]!).val*k+t%k]? :=by grind [jA,get_flatK,Qv,Qw]
end
theorem Hs {P:Program}{ρ:Ren}(L:SlLaysF0.n14 P ρ){k:Nat}(aE:∀w,(isAgg (ρ.t 24)).run P w=.ok true w)(zE:∀w,(Go.sizeOf (ρ.t 24)).run P w=.ok k w){f g:Nat}(hf:ρ.f 14=f)(hg:Nat.blt g aM=true)(eg:pT P g)(E:N')
  (n:N'->N'->Int) (H:V') (id:Nat) (b:Xx) (a Z:I') (lm:Nat) (hb:H[id]? =some b) (X:b.mp=false) (c0:b.fz=false) (b1:b.sz=k) (b5:b.ch=a.map (·.map DL.p))
  (e7:lm<4611686018427387904) (hn:a.length<4611686018427387904) (b8:∀x∈a,∀y∈a,CC P g (.agg x::.agg y::E.map .one) (.one (.int .i64 (n x y))))
  (g1:∀x∈a,¬n x x<0) (tr:∀x∈a,∀y∈a,∀z∈a,n x y<0->n y z<0->n x z<0) (g3:∀x∈a,∀y∈a,∀z∈a,¬n x y<0->¬n y z<0->¬n x z<0)
  (f0:∀x∈a,∀y∈a,¬n x y<0->¬n y x<0->x=y) (G:Z.Perm a) (hs:Z.Pairwise fun x y=>¬n y x<0):
  CH P f [.one (.own id b.XM 0 a.length),.one (.p (.int .i64 (.ofNat 0))),.one (.p (.int .i64 (.ofNat a.length))),.one (.p (.int .i64 (.ofNat lm))),.one (.p (.fn g E))] H (.X9 []) (H.set id {b with ch:=Z.map (·.map DL.p)}):=by
 intro w O μ vs hI a7;have c1:id<H.length:=(Zf.1 hb).1;have U:Xj H id=some b:=hb;cases a7 with |cons a1 t=> ?_
 cases t with |cons a2 t=> ?_
 cases t with |cons a3 t=> ?_
 cases t with |cons a4 t=> ?_
 cases t with |cons a5 t=> ?_
 cases t;rename_i v1 v2 v3 v4 v5;have e2:v2=.int .i64 (.ofNat 0):=by cases a2 with |p _ _ G=>cases G;rfl
 have e3:v3=.int .i64 (.ofNat a.length):=by cases a3 with |p _ _ G=>cases G;rfl
 have e4:v4=.int .i64 (.ofNat lm):=by cases a4 with |p _ _ G=>cases G;rfl
 obtain⟨Y,e5,b7,d6⟩:∃Y,v5=.func (.func g) #[] Y.toArray/\Y.length=E.length/\XB (Ws w (Live O μ (Xj H))) Y E:=by
  cases a5 with |p _ _ G=> ?_
  cases G with |fn _ _ Y hl hc=> ?_
  grind [mL,XB.Uj]
 have V:=hI.RH id b U;unfold Wr at V;rw[X]at V;simp only[Zy,if_false]at V;obtain⟨C,hC,T,d2⟩:=V;obtain⟨K,e1⟩:∃K,v1=.slice (some ⟨μ id,0,none⟩) a.length K:=by
  cases a1 with |own _ _ _ _ b2 g2 o K f4 hv hl g0=> ?_
  simp_all
 subst e1;subst e2;subst e3;subst e4;subst e5;subst hf;by_cases c3:a=[]
 ·subst c3;have d7:Z=[]:=by simpa using G.length_eq
  subst d7;have b0:({b with ch:=([]:I').map (·.map DL.p)}:Xx)=b:=by
   have :b.ch=[]:=by simpa using b5
   cases b;simp_all
  have c7:H.set id b=H:=by
   obtain⟨R,h2⟩:=Zf.1 hb;apply List.ext_getElem (by simp)
   grind
  rw[b0,c7];refine(AnyF.pdqsortCmpFunc_none L (some ⟨μ id,0,none⟩) K lm (.func (.func g) #[] Y.toArray) w).mono fun e w' ⟨he,hw⟩=> ?_
  subst hw;exact⟨_,μ,he,⟨[],rfl,.nil⟩,hI,Wy.refl ..⟩
 ·have c5:0<a.length:=List.length_pos_iff.2 c3
  haveI:Inhabited (Fin a.length):=⟨⟨0,c5⟩⟩
  have a8:b.ch.length=a.length:=by rw[b5];simp
  rw[a8,b1]at T;have r:∀(i:Nat) (c:N'),a[i]? =some c->c.length=k/\XB (Ws w (Live O μ (Xj H))) (Vf C k i) c:=by
   intro i c S;have f8:i<a.length:=(Zf.1 S).1;have R:=d2 i (c.map DL.p) (by grind);rw[b1]at R;have b6:c.length=k:=by simpa using R.1
   refine⟨b6,XB.Uj (by grind [Qv]) fun j v d hv hd=> ?_⟩;have J:j<k:=by grind
   rw[Qw J]at hv;obtain⟨v',c9,hr⟩:=R.2 j (.p d) (by grind);rw[hv]at c9;cases c9;cases hr with |p _ _ G=>exact G
  have F:∀i:Fin a.length,a[i.val]? =some a[i.val]:=fun i=>Zg i.isLt
  have e6:∀i:Fin a.length,(Vf C k i).length=k:=fun i=>Qv T i.isLt
  have d1:∀i:Fin a.length,∀v∈Vf C k i,v.oneCell'=true:=by
   intro i v hv;obtain⟨j,J⟩:=ZB.1 hv;have ha:=(r i _ (F i)).2;have e0:j<a[i.val].length:=by grind
   obtain⟨x,hx,hr⟩:=ha.get j _ (Zg e0);rw[J]at hx;cases hx;exact hr.one
  let B:Array (Fin a.length):=Array.ofFn fun i=>i
  have A:B.size=a.length:=by simp[B]
  have f1:∀i (S:i<a.length),B[i]! =⟨i,S⟩:=by
   intro i S;rw[getElem!_pos B i (by rw[A];exact S)];simp[B]
  have hH:HoldsK (fun i:Fin a.length=>Vf C k i) k w (μ id) 0 B:=by
   intro j J;rw[size_flatK,A]at J;have hf:=bY T B A J;obtain⟨q1,q2,q3⟩:=jA J
   simp_all [World.cell?,World.frozen?]
  have e8:∀q,Live O μ (Xj H) q->q<w.heap.size:=by
   rintro q (hq|⟨i,f3,R,_,rfl⟩)
   ·exact hI.lt q hq
   ·exact hI.lt_size R
  have a9:Live O μ (Xj H) (μ id):=.inr ⟨id,b,U,c0,rfl⟩;have Q:∀(m:Nat) (s:Array (Fin a.length)) (os:Array Obj),RA w (Live O μ (Xj H)) (sortWorldK (fun i:Fin a.length=>Vf C k i) k w (μ id) 0 m s os) (Live O μ (Xj H)):=by
   intro m s os;exact⟨size_sortWorldK_c _ _ _ _ _ _ _ _,fun q hq hl=>U4 _ _ _ _ _ _ _ _ hq fun e=>hl (e▸a9),fun q hq=>.inl hq⟩
  let cf:Fin a.length->Fin a.length->Int:=fun i j=>n a[i.val] a[j.val]
  have a0:∀i:Fin a.length,a[i.val]∈a:=fun i=>YS i.isLt
  have hO:SWO (ltOf cf):=by
   refine⟨fun x=> ?_,fun x y z R h2=> ?_,fun x y z R h2=> ?_⟩
   ·grind [ltOf]
   ·grind [ltOf]
   grind [ltOf]
  have b7:CmpLays P g Y.toArray (fun i:Fin a.length=>Vf C k i) k cf (μ id) 0 B.size w:=by
   intro m os s f5 x y;have kp:=Q m s os;refine tb (L:=Live O μ (Xj H)) (b8 _ (a0 x) _ (a0 y)) (fun q hq=>ZZ (e8 q hq) kp.size) ?_ ?_ ?_
   ·exact((r x _ (F x)).2).imp fun _ _ h=>h.keeps kp
   ·exact((r y _ (F y)).2).imp fun _ _ h=>h.keeps kp
   ·exact d6.imp fun _ _ h=>h.keeps kp
  have b4:μ id<w.heap.size:=hI.lt_size U;have D:=AnyQ.pdqsortCmpFunc_all L k aE zE (fun i:Fin a.length=>Vf C k i) cf g Y.toArray hO (μ id) 0 K B w eg b7 ⟨e6,d1,hH,b4⟩ (a.length+1) 0 a.length lm B w (by omega) rfl (SWK.start hH) (Zw _) (by omega) (by rw[A];exact hn) e7 (Or.inl rfl);rw[A]at D;refine D.mono fun e w' ⟨he,e9⟩=> ?_
  clear D;obtain⟨u,N⟩:=pdq_sorts (ltOf cf) hO B 0 a.length lm true true (Zw _) (by omega) (Or.inl rfl);obtain⟨m,os,rfl⟩:=e9;generalize pdq (ltOf cf) B 0 a.length lm true true=s at u N;obtain⟨c8,-,u⟩:=u;have I:s.size=a.length:=by rw[c8,A]
  have x1:s.extract 0 a.length=s:=R2 s I;have x2:B.extract 0 a.length=B:=R2 B A;rw[x1,x2]at u;have f2:B.toList.map (fun i=>a[i.val])=a:=by
   apply List.ext_getElem (by simp[A])
   grind
  have f7:Z=s.toList.map fun i=>a[i.val]:=by
   have c4:(s.toList.map fun i=>a[i.val]).Perm a:=by
    grind
   refine List.Perm.eq_of_pairwise (le:=fun x y=>¬n y x<0) (fun x y hx hy R h2=>f0 x (G.mem_iff.1 hx) y (c4.mem_iff.1 hy) h2 R) hs ?_ (G.trans c4.symm);rw[List.pairwise_map,List.pairwise_iff_getElem];intro i j S J d8;have:=N i j (Zw _) d8 (by grind)
   grind [ltOf]
  have f6:Z.length=a.length:=G.length_eq;have kp:=Q m s os;have M:=NW (fun i:Fin a.length=>Vf C k i) k w (μ id) m s os hC;have b3:(putCells _root_.id 0 (flatK (fun i:Fin a.length=>Vf C k i) k s) C).size=C.size:=by simp[putCells]
  generalize hW:sortWorldK (fun i:Fin a.length=>Vf C k i) k w (μ id) 0 m s os=W at M kp;have a6:W.os=w.os/\W.tape=w.tape/\W.output=w.output:=by rw[<-hW];exact⟨rfl,rfl,rfl⟩
  have d4:∀q,q<w.heap.size->q≠μ id->W.heap[q]? =w.heap[q]? :=by
   grind [U4]
  obtain⟨hM,d3⟩:=Rj (b':={b with ch:=Z.map (·.map DL.p)}) hI U X X c0 hC M kp.size d4 (.inl rfl) (Ze _) (fun _=>⟨rfl,rfl,b3⟩) a6.1 a6.2.1 a6.2.2;rw[kq H id _ c1];refine⟨_,_,he,⟨[],rfl,.nil⟩,d3 ?_,hM⟩;refine Wr.B9 (b:={b with ch:=Z.map (·.map DL.p)}) X (by rw[if_pos rfl];exact M) ?_ fun i c S=> ?_
  ·grind
  ·show c.length=b.sz/\∀(j:Nat) (d:DL),c[j]? =some d->∃v,(putCells _root_.id 0 (flatK (fun i:Fin a.length=>Vf C k i) k s) C)[i*b.sz+j]? =some v/\_;simp only[ZD,Option.map_eq_some_iff]at S;obtain⟨c',S,rfl⟩:=S;have c2:i<a.length:=by grind
   have f9:i<s.size:=by rw[I];exact c2
   have d5:c'=a[(s[i]!).val]:=by
    grind
   obtain⟨b6,c6⟩:=r (s[i]!).val c' (by rw[d5];exact F _);refine⟨by grind,fun j d J=> ?_⟩;simp only[ZD,Option.map_eq_some_iff]at J;obtain⟨l,J,rfl⟩:=J;have d9:j<k:=by grind
   obtain⟨v,hv,hr⟩:=c6.get j l J;rw[Qw d9]at hv;have ht:i*k+j<a.length*k:=by
    have:=Zn k (show i+1<=a.length from c2)
    grind
   have k0:0<k:=by omega
   have q1:(i*k+j) / k=i:=by simp_all [Nat.add_comm,Nat.add_mul_div_right]
   have q2:(i*k+j)%k=j:=by grind [Nat.add_mul_mod_self_right,Zh]
   have b9:=bY T s I ht;simp only[q1,q2]at b9;rw[hv]at b9;refine⟨v,?_,XE.mono hM (XE.p _ _ hr)⟩;rw[b1];simp only[putCells,Array.getElem?_mapIdx,size_flatK,I]
   grind
end Go.Ev
namespace Go.Ev
open Go.RowKit Go.Shelf Go.Lib Go.Sort Go.Proofs
theorem FP {g:Nat}(K:Nat.blt g aM=true){H:V'}{id j:Nat}(A:j≠id){b k:Xx}(I:H[id]? =some b)(L:H[j]? =some k)(z:k.mp=false){cs:N'}{rest:K'}(x:k.ch=cs.map DL.p::rest)
  (w:World) (O:BS) (μ:Nat->Nat) (v:Value) (B:X3 w O μ (Xj H)) (y:b.fz=false) (r:XA w O μ (Xj H) v (.one (.fn g [.ptr j k.XM 0 0]))):∃m:List Value,v=.func (.func g) #[] m.toArray/\XB (Ws w fun q=>q=μ id) m [.ref cs]:=by
 have l:Xj H j=some k:=L;have t:Xj H id=some b:=I;cases r with |fn _ _ m M J=> ?_
 refine⟨m,mL K m,?_⟩
 match m,M with
 |[v0],_=>
  have h0:=J 0 _ v0 rfl rfl;refine .cons ?_ .nil;cases h0 with |ptr _ _ _ _ R S o s h Q=> ?_
  rw[l]at s;cases s;obtain⟨rfl,D⟩:=Q rfl;rw[YJ]at D;subst D;have a:=B.RH j k l;unfold Wr at a;rw[z]at a;simp only[Zy,if_false]at a;obtain⟨C,F,G,u⟩:=a;have E:=(u 0 (cs.map DL.p) (by rw[x];rfl)).2;have c:RA w (Live O μ (Xj H)) w (fun q=>q=μ id):=⟨Ze _,fun _ _ _=>rfl,fun q P=>.inl (by rw[P];exact .inr ⟨id,b,t,y,rfl⟩)⟩;have f:∀(i:Nat) (d:PL),cs[i]? =some d->∃v,C[i]? =some v/\Ws w (fun q=>q=μ id) v d:=by
   intro i d n;obtain⟨v,h,r⟩:=E i (.p d) (by rw[ZD,n];rfl);rw[YJ,Yg]at h;cases r with |p _ _ N=>exact⟨v,h,N.keeps c⟩
  refine .ref (μ j) (0+0) cs (fun i=>C[i]!) (fun i d n e=>A (B.inj j id k b l t e)) (fun i d n=> ?_) (fun i d n=> ?_)
  ·obtain⟨v,h,r⟩:=f i d n;simp only[World.cell?,F,Yg];rw[h,getElem!_def,h];rfl
  ·obtain⟨v,h,r⟩:=f i d n;rw[getElem!_def,h];exact r
theorem EY {P:Program}{ρ:Ren}(L:SlLaysF0.n14 P ρ){k:Nat}(aE:∀w,(isAgg (ρ.t 24)).run P w=.ok true w)(zE:∀w,(Go.sizeOf (ρ.t 24)).run P w=.ok k w){f g:Nat}(hf:ρ.f 14=f)(eg:pT P g)(a8:N')(a7:DV)
  (n:N'->N'->Int) (H:V') (id:Nat) (b:Xx) (a ds:I') (lm:Nat) (hb:H[id]? =some b) (a6:b.mp=false) (c6:b.fz=false) (Z:b.sz=k) (b3:b.ch=a.map (·.map DL.p))
  (h5:∀(w:World) (O:BS) (μ:Nat->Nat) (v:Value),X3 w O μ (Xj H)->XA w O μ (Xj H) v a7->∃cv:List Value,v=.func (.func g) #[] cv.toArray/\XB (Ws w fun q=>q=μ id) cv a8)
  (f6:lm<4611686018427387904) (hn:a.length<4611686018427387904) (c2:∀x∈a,∀y∈a,CC P g (.agg x::.agg y::a8.map .one) (.one (.int .i64 (n x y))))
  (f9:∀x∈a,¬n x x<0) (tr:∀x∈a,∀y∈a,∀z∈a,n x y<0->n y z<0->n x z<0) (g0:∀x∈a,∀y∈a,∀z∈a,¬n x y<0->¬n y z<0->¬n x z<0)
  (g1:∀x∈a,∀y∈a,¬n x y<0->¬n y x<0->x=y) (U:ds.Perm a) (hs:ds.Pairwise fun x y=>¬n y x<0):
  CH P f [.one (.own id b.XM 0 a.length),.one (.p (.int .i64 (.ofNat 0))),.one (.p (.int .i64 (.ofNat a.length))),.one (.p (.int .i64 (.ofNat lm))),a7] H (.X9 []) (H.set id {b with ch:=ds.map (·.map DL.p)}):=by
 intro w O μ vs hI b1;have c8:id<H.length:=(Zf.1 hb).1;have R:Xj H id=some b:=hb;cases b1 with |cons a1 t=> ?_
 cases t with |cons a2 t=> ?_
 cases t with |cons a3 t=> ?_
 cases t with |cons a4 t=> ?_
 cases t with |cons a5 t=> ?_
 cases t;rename_i v1 v2 v3 v4 v5;have e2:v2=.int .i64 (.ofNat 0):=by cases a2 with |p _ _ U=>cases U;rfl
 have e3:v3=.int .i64 (.ofNat a.length):=by cases a3 with |p _ _ U=>cases U;rfl
 have e4:v4=.int .i64 (.ofNat lm):=by cases a4 with |p _ _ U=>cases U;rfl
 obtain⟨cv,e5,e9⟩:=h5 w O μ v5 hI a5;have a0:=hI.RH id b R;unfold Wr at a0;rw[a6]at a0;simp only[Zy,if_false]at a0;obtain⟨C,hC,Q,d9⟩:=a0;obtain⟨N,e1⟩:∃N,v1=.slice (some ⟨μ id,0,none⟩) a.length N:=by
  cases a1 with |own _ _ _ _ b2 g2 o N c0 hv hl f7=> ?_
  rw[R]at c0;cases c0;obtain⟨rfl,C2,T2,g4,hd⟩:=f7 rfl;rcases hd with⟨ho,-,-⟩|⟨-,-,h0⟩
  ·rw[YJ]at ho;subst ho;exact⟨N,rfl⟩
  ·omega
 subst e1;subst e2;subst e3;subst e4;subst e5;subst hf;by_cases d1:a=[]
 ·subst d1;have f0:ds=[]:=by simpa using U.length_eq
  subst f0;have b7:({b with ch:=([]:I').map (·.map DL.p)}:Xx)=b:=by
   have :b.ch=[]:=by simpa using b3
   cases b;simp_all
  have d5:H.set id b=H:=by
   obtain⟨G,h2⟩:=Zf.1 hb;apply List.ext_getElem (by simp);intro i h3 h4;rw[List.getElem_set];split
   ·rename_i e;subst e;exact h2.symm
   ·rfl
  rw[b7,d5];refine(AnyF.pdqsortCmpFunc_none L (some ⟨μ id,0,none⟩) N lm (.func (.func g) #[] cv.toArray) w).mono fun e w' ⟨he,hw⟩=> ?_
  subst hw;exact⟨_,μ,he,⟨[],rfl,.nil⟩,hI,Wy.refl ..⟩
 ·have d3:0<a.length:=List.length_pos_iff.2 d1
  haveI:Inhabited (Fin a.length):=⟨⟨0,d3⟩⟩
  have b6:b.ch.length=a.length:=by rw[b3];simp
  rw[b6,Z]at Q;have u:∀(i:Nat) (c:N'),a[i]? =some c->c.length=k/\XB (Ws w (Live O μ (Xj H))) (Vf C k i) c:=by
   intro i c I;have f2:i<a.length:=(Zf.1 I).1;have G:=d9 i (c.map DL.p) (by rw[b3,ZD,I];rfl);rw[Z]at G;have S:c.length=k:=by simpa using G.1
   refine⟨S,XB.Uj (by rw[Qv Q f2,S]) fun j v d hv hd=> ?_⟩;have E:j<k:=by rw[<-S];exact(Zf.1 hd).1
   rw[Qw E]at hv;obtain⟨v',d7,hr⟩:=G.2 j (.p d) (by rw[ZD,hd];rfl);rw[hv]at d7;cases d7;cases hr with |p _ _ U=>exact U
  have K:∀i:Fin a.length,a[i.val]? =some a[i.val]:=fun i=>Zg i.isLt
  have f5:∀i:Fin a.length,(Vf C k i).length=k:=fun i=>Qv Q i.isLt
  have d8:∀i:Fin a.length,∀v∈Vf C k i,v.oneCell'=true:=by
   intro i v hv;obtain⟨j,E⟩:=ZB.1 hv;have ha:=(u i _ (K i)).2;have f4:j<a[i.val].length:=by rw[<-ha.length];exact(Zf.1 E).1
   obtain⟨x,hx,hr⟩:=ha.get j _ (Zg f4);rw[E]at hx;cases hx;exact hr.one
  let D:Array (Fin a.length):=Array.ofFn fun i=>i
  have B:D.size=a.length:=by simp[D]
  have c3:∀i (I:i<a.length),D[i]! =⟨i,I⟩:=by
   intro i I;rw[getElem!_pos D i (by rw[B];exact I)];simp[D]
  have hH:HoldsK (fun i:Fin a.length=>Vf C k i) k w (μ id) 0 D:=by
   intro j E;rw[size_flatK,B]at E;have hf:=bY Q D B E;obtain⟨q1,q2,q3⟩:=jA E;rw[c3 _ q1]at hf;rw[q3]at hf;have g6:j<C.size:=by omega
   refine⟨?_,?_⟩
   ·simp only[World.cell?,hC,Yg];simpa using hf.symm
   ·simp[World.frozen?,hC]
  have g7:∀q,Live O μ (Xj H) q->q<w.heap.size:=by
   rintro q (T|⟨i,g3,G,_,rfl⟩)
   ·exact hI.lt q T
   ·exact hI.lt_size G
  have V:Live O μ (Xj H) (μ id):=.inr ⟨id,b,R,c6,rfl⟩;have b9:∀(m:Nat) (s:Array (Fin a.length)) (os:Array Obj),RA w (Live O μ (Xj H)) (sortWorldK (fun i:Fin a.length=>Vf C k i) k w (μ id) 0 m s os) (Live O μ (Xj H)):=by
   intro m s os;exact⟨size_sortWorldK_c _ _ _ _ _ _ _ _,fun q T hl=>U4 _ _ _ _ _ _ _ _ T fun e=>hl (e▸V),fun q T=>.inl T⟩
  let cf:Fin a.length->Fin a.length->Int:=fun i j=>n a[i.val] a[j.val]
  have r:∀i:Fin a.length,a[i.val]∈a:=fun i=>YS i.isLt
  have hO:SWO (ltOf cf):=by
   refine⟨fun x=> ?_,fun x y z G h2=> ?_,fun x y z G h2=> ?_⟩
   ·simp only[ltOf,cf,decide_eq_false_iff_not];exact f9 _ (r x)
   ·simp only[ltOf,cf,decide_eq_true_eq]at *;exact tr _ (r x) _ (r y) _ (r z) G h2
   ·simp only[ltOf,cf,decide_eq_false_iff_not]at *;exact g0 _ (r x) _ (r y) _ (r z) G h2
  have b8:∀(m:Nat) (s:Array (Fin a.length)) (os:Array Obj),RA w (fun q=>q=μ id) (sortWorldK (fun i:Fin a.length=>Vf C k i) k w (μ id) 0 m s os) (fun q=>q=μ id):=
   fun m s os=>⟨size_sortWorldK_c _ _ _ _ _ _ _ _,fun q T hl=>U4 _ _ _ _ _ _ _ _ T hl,fun q T=>.inl T⟩
  have M:RA w (Live O μ (Xj H)) w (fun q=>q=μ id):=⟨Ze _,fun _ _ _=>rfl,fun q T=>.inl (by rw[T];exact V)⟩;have e8:CmpLays P g cv.toArray (fun i:Fin a.length=>Vf C k i) k cf (μ id) 0 D.size w:=by
   intro m os s g5 x y;have kp:=b8 m s os;refine tb (L:=fun q=>q=μ id) (c2 _ (r x) _ (r y)) (fun q T=>ZZ (by rw[T];exact hI.lt_size R) kp.size) ?_ ?_ ?_
   ·exact((u x _ (K x)).2).imp fun _ _ h=>(h.keeps M).keeps kp
   ·exact((u y _ (K y)).2).imp fun _ _ h=>(h.keeps M).keeps kp
   ·exact e9.imp fun _ _ h=>h.keeps kp
  have c1:μ id<w.heap.size:=hI.lt_size R;have J:=AnyQ.pdqsortCmpFunc_all L k aE zE (fun i:Fin a.length=>Vf C k i) cf g cv.toArray hO (μ id) 0 N D w eg e8 ⟨f5,d8,hH,c1⟩ (a.length+1) 0 a.length lm D w (by omega) rfl (SWK.start hH) (Zw _) (by rw[B];exact Ze _) (by rw[B];exact hn) f6 (Or.inl rfl);rw[B]at J;refine J.mono fun e w' ⟨he,f8⟩=> ?_
  clear J;obtain⟨A,Y⟩:=pdq_sorts (ltOf cf) hO D 0 a.length lm true true (Zw _) (by rw[B];exact Ze _) (Or.inl rfl);obtain⟨m,os,rfl⟩:=f8;generalize pdq (ltOf cf) D 0 a.length lm true true=s at A Y;obtain⟨d6,-,A⟩:=A;have F:s.size=a.length:=by rw[d6,B]
  have x1:s.extract 0 a.length=s:=R2 s F;have x2:D.extract 0 a.length=D:=R2 D B;rw[x1,x2]at A;have c4:D.toList.map (fun i=>a[i.val])=a:=by
   apply List.ext_getElem (by simp[B]);intro i G h2;simp[D]
  have f1:ds=s.toList.map fun i=>a[i.val]:=by
   have d2:(s.toList.map fun i=>a[i.val]).Perm a:=by
    have:=A.map fun i:Fin a.length=>a[i.val]
    rwa[c4]at this
   refine List.Perm.eq_of_pairwise (le:=fun x y=>¬n y x<0) (fun x y hx hy G h2=>g1 x (U.mem_iff.1 hx) y (d2.mem_iff.1 hy) h2 G) hs ?_ (U.trans d2.symm);rw[List.pairwise_map,List.pairwise_iff_getElem];intro i j I E f3;have:=Y i j (Zw _) f3 (by rw[<-F];simpa using E);rw[getElem!_pos s i (by simpa using I),getElem!_pos s j (by simpa using E)]at this;simpa[ltOf,cf]using this
  have c5:ds.length=a.length:=U.length_eq;have kp:=b9 m s os;have X:=NW (fun i:Fin a.length=>Vf C k i) k w (μ id) m s os hC;have a9:(putCells _root_.id 0 (flatK (fun i:Fin a.length=>Vf C k i) k s) C).size=C.size:=by simp[putCells]
  generalize hW:sortWorldK (fun i:Fin a.length=>Vf C k i) k w (μ id) 0 m s os=W at X kp;have b0:W.os=w.os/\W.tape=w.tape/\W.output=w.output:=by rw[<-hW];exact⟨rfl,rfl,rfl⟩
  have e6:∀q,q<w.heap.size->q≠μ id->W.heap[q]? =w.heap[q]? :=by
   intro q G h2;rw[<-hW];exact U4 _ _ _ _ _ _ _ _ G h2
  obtain⟨hM,e0⟩:=Rj (b':={b with ch:=ds.map (·.map DL.p)}) hI R a6 a6 c6 hC X kp.size e6 (.inl rfl) (Ze _) (fun _=>⟨rfl,rfl,a9⟩) b0.1 b0.2.1 b0.2.2;rw[kq H id _ c8];refine⟨_,_,he,⟨[],rfl,.nil⟩,e0 ?_,hM⟩;refine Wr.B9 (b:={b with ch:=ds.map (·.map DL.p)}) a6 (by rw[if_pos rfl];exact X) ?_ fun i c I=> ?_
  ·show(ds.map (·.map DL.p)).length*b.sz<=_;rw[a9,ZP,c5,Z];exact Q
  ·show c.length=b.sz/\∀(j:Nat) (d:DL),c[j]? =some d->∃v,(putCells _root_.id 0 (flatK (fun i:Fin a.length=>Vf C k i) k s) C)[i*b.sz+j]? =some v/\_;simp only[ZD,Option.map_eq_some_iff]at I;obtain⟨c',I,rfl⟩:=I;have c9:i<a.length:=by rw[<-c5];exact(Zf.1 I).1
   have c7:i<s.size:=by rw[F];exact c9
   have e7:c'=a[(s[i]!).val]:=by
    rw[f1,ZD,Array.getElem?_toList,Array.getElem?_eq_getElem c7]at I;have hg:=getElem!_pos s i c7;simp only[hg];simpa using I.symm
   obtain⟨S,d4⟩:=u (s[i]!).val c' (by rw[e7];exact K _);refine⟨by rw[Z];simpa using S,fun j d E=> ?_⟩;simp only[ZD,Option.map_eq_some_iff]at E;obtain⟨l,E,rfl⟩:=E;have b5:j<k:=by rw[<-S];exact(Zf.1 E).1
   obtain⟨v,hv,hr⟩:=d4.get j l E;rw[Qw b5]at hv;have ht:i*k+j<a.length*k:=by
    have:=Zn k (show i+1<=a.length from c9);rw[ZG,Z4]at this;omega
   have k0:0<k:=by omega
   have q1:(i*k+j) / k=i:=by rw[Nat.add_comm,Nat.add_mul_div_right _ _ k0,YP b5,Yg]
   have q2:(i*k+j)%k=j:=by rw[Nat.add_comm,Nat.add_mul_mod_self_right,Zh b5]
   have b4:=bY Q s F ht;simp only[q1,q2]at b4;rw[hv]at b4;refine⟨v,?_,XE.mono hM (XE.p _ _ hr)⟩;rw[Z];simp only[putCells,Array.getElem?_mapIdx,size_flatK,F];rw[Array.getElem?_eq_getElem (by omega),Z6,if_pos ⟨Zw _,by omega⟩];simpa using b4
theorem EW {P:Program}{g:Ren}(L:SlLaysF0.n14 P g){f:Nat}(q:g.f 14=f)(d:Nat)(c:DV)(H:V'):
  CH P f [.one (.p .Xq),.one (.p (.int .i64 (.ofNat 0))),.one (.p (.int .i64 (.ofNat 0))),.one (.p (.int .i64 (.ofNat d))),c] H (.X9 []) H:=by
 intro w O μ A n a;cases a with |cons h t=> ?_
 cases t with |cons i t=> ?_
 cases t with |cons j t=> ?_
 cases t with |cons k t=> ?_
 cases t with |cons z t=> ?_
 cases t;rename_i s u v x y;have e1:s=.slice none 0 0:=by cases h with |p _ _ b=>cases b;rfl
 have e2:u=.int .i64 (.ofNat 0):=by cases i with |p _ _ b=>cases b;rfl
 have l:v=.int .i64 (.ofNat 0):=by cases j with |p _ _ b=>cases b;rfl
 have m:x=.int .i64 (.ofNat d):=by cases k with |p _ _ b=>cases b;rfl
 subst e1;subst e2;subst l;subst m;subst q;refine(AnyF.pdqsortCmpFunc_none L none 0 d y w).mono fun e B ⟨o,r⟩=> ?_
 subst r;exact⟨_,μ,o,⟨[],rfl,.nil⟩,n,Wy.refl ..⟩
end Go.Ev
