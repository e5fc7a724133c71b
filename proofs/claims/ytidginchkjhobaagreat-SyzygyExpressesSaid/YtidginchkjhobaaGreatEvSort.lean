/- The library's sort, as a call over the caller's blocks: the chunks of a slice end up in the one order in which they are sorted. -/
import Derived.Test.YtidginchkjhobaaGreatEvDrawn
import Derived.Lib.QuietBelow
import Derived.Shelf.SlSortCmp.NoneTotal
set_option maxHeartbeats 16000000
namespace Go.Ev
open Go.Proofs.YtidginchkjhobaaGreat
open Go.RowKit Go.Shelf Go.Lib Go.Sort Go.Proofs
section
variable {P:Program}{O:BS}{w:World}{μ:Nat->Nat}{h:HF}
theorem uX {g}{a}{j}{x y}{f i}{z}{W}{L}(w:CC P g (.agg x::.agg y::a.map .one) (.one (.int .i64 z)))
  (E:∀b,L b->b<W.heap.size) (G:XE (Ws W L) f x) (H:XE (Ws W L) i y) (l:XE (Ws W L) j a):
  Calls P g (#[.agg f.toArray,.agg i.toArray]++j.toArray) W fun e k=>e=.returned (.int .i64 z)/\∃q t,k=grow (W.drewN q) t:=by
 have lift:∀{u:List Value} {s:N'},XE (Ws W L) u s->XE (XH W L μ0 h0) u (s.map .p):=by
  intro u s C;induction C with
  |nil=>exact .nil
  |cons h _ r=>exact .cons (.p _ _ (by rw[T5];exact h)) r
 have c:XE (fun v p=>XF W L μ0 h0 v (inj p)) (.agg f.toArray::.agg i.toArray::j) (.agg x::.agg y::a.map .one):=by
  refine .cons ⟨f,rfl,lift G⟩ (.cons ⟨i,rfl,lift H⟩ ?_);clear w;induction l with
  |nil=>exact .nil
  |cons h _ r=>exact .cons (XH.p _ _ (by rw[T5];exact h)) r
 have A:=w W L _ E c;have B:=u6 A (fun e k ⟨v,m,_⟩=>⟨v,m⟩);have e:(#[.agg f.toArray,.agg i.toArray]++j.toArray)=(Value.agg f.toArray::.agg i.toArray::j).toArray:=by simp
 rw[e];refine B.mono fun e k ⟨⟨v,m,F,D⟩,I⟩=> ?_
 have o:v=.int .i64 z:=by
  cases F with
  |p _ _ n=>cases n;rfl
 subst o;refine⟨m,?_⟩;obtain⟨p,n⟩:=regrown_of_below D;refine⟨p.d-W.drawn,p.os,?_⟩;have :k.drawn=p.d:=by rw[n];rfl
 grind [redrawn,World.drewN]
theorem Wx.D6 {id}{b}(g:b.mp=false){C}(a:w.heap[μ id]? =some (.cells C b.ty (0,0)))(f:b.ch.length*b.sz<=C.size)
  (e:∀(i:Nat) (c:Y'),b.ch[i]? =some c->c.length=b.sz/\∀(j:Nat) (d:DL),c[j]? =some d->∃v,C[i*b.sz+j]? =some v/\XH w O μ h v d):Wx w O μ h id b:=by grind [Wx]
theorem Tg {d:Type}[Inhabited d](c:d->List Value)(k)(w)(a m)(e:Array d)(g:Array Obj)(b)(h:b<w.heap.size)(f:b≠a):(sortWorldK c k w a 0 m e g).heap[b]? =w.heap[b]? :=by
 unfold sortWorldK grow putRowK putRow mapBlock Sort.ahead
 grind
theorem aG {c:Type}[Inhabited c](b:c->List Value)(k)(w)(a m)(d:Array c)(g:Array Obj){C}{T:TypeId}(e:w.heap[a]? =some (.cells C T (0,0))):
  (sortWorldK b k w a 0 m d g).heap[a]? =some (.cells (putCells id 0 (flatK b k d) C) T (0,0)):=by
 have f:a<w.heap.size:=(Yd.1 e).1;unfold sortWorldK grow putRowK putRow mapBlock Sort.ahead;rw[Array.getElem?_append_left (by simpa using f),Array.getElem?_modify,if_pos rfl,e];rfl
theorem Qa {b:Type}(a:Array b){n}(h:a.size=n):a.extract 0 n=a:=by grind
def Vo (C:Array Value)(k:Nat)(i:Nat):List Value:=(C.toList.drop (i*k)).take k
theorem QD {C}{k n i}(h:n*k<=C.size)(a:i<n):(Vo C k i).length=k:=by
 have:=Zm k (show i+1<=n from a);rw[ZX,Yf]at this
 grind [Vo]
theorem QE {C}{k i j}(a:j<k):(Vo C k i)[j]? =C[i*k+j]? :=by simp_all [Vo]
theorem kI {k n t:Nat}(h:t<n*k):t / k<n/\t%k<k/\t / k*k+t%k=t:=by
 have a:0<k:=by
  grind
 exact⟨Yc (by grind),ZN _ a,Nat.div_add_mod' t k⟩
theorem cY {n k:Nat}[Inhabited (Fin n)]{C:Array Value}(h:n*k<=C.size)(a:Array (Fin n))(b:a.size=n){t:Nat}(c:t<n*k):
  some ((flatK (fun i:Fin n=>Vo C k i) k a)[t]!)=C[(a[t / k]!).val*k+t%k]? :=by grind [kI,get_flatK,QD,QE]
end
theorem Js {P:Program}{ρ:Ren}(L:SlLaysF0.n14 P ρ){k:Nat}(aE:∀w,(isAgg (ρ.t 24)).run P w=.ok true w)(zE:∀w,(Go.sizeOf (ρ.t 24)).run P w=.ok k w){f g:Nat}(hf:ρ.f 14=f)(hg:Nat.blt g bF=true)(eg:rH P g)(E:N')
  (n:N'->N'->Int) (H:V') (id:Nat) (b:Xx) (a Z:Z') (lm:Nat) (hb:H[id]? =some b) (X:b.mp=false) (c0:b.fz=false) (b1:b.sz=k) (b5:b.ch=a.map (·.map DL.p))
  (e7:lm<4611686018427387904) (hn:a.length<4611686018427387904) (b8:∀x∈a,∀y∈a,CC P g (.agg x::.agg y::E.map .one) (.one (.int .i64 (n x y))))
  (g1:∀x∈a,¬n x x<0) (tr:∀x∈a,∀y∈a,∀z∈a,n x y<0->n y z<0->n x z<0) (g3:∀x∈a,∀y∈a,∀z∈a,¬n x y<0->¬n y z<0->¬n x z<0)
  (f0:∀x∈a,∀y∈a,¬n x y<0->¬n y x<0->x=y) (G:Z.Perm a) (hs:Z.Pairwise fun x y=>¬n y x<0):
  CH P f [.one (.own id b.XW 0 a.length),.one (.p (.int .i64 (.ofNat 0))),.one (.p (.int .i64 (.ofNat a.length))),.one (.p (.int .i64 (.ofNat lm))),.one (.p (.fn g E))] H (.Wd []) (H.set id {b with ch:=Z.map (·.map DL.p)}):=by
 intro w O μ vs hI a7;have c1:id<H.length:=(Zg.1 hb).1;have U:Xj H id=some b:=hb;cases a7 with |cons a1 t=> ?_
 cases t with |cons a2 t=> ?_
 cases t with |cons a3 t=> ?_
 cases t with |cons a4 t=> ?_
 cases t with |cons a5 t=> ?_
 cases t;rename_i v1 v2 v3 v4 v5;have e2:v2=.int .i64 (.ofNat 0):=by cases a2 with |p _ _ G=>cases G;rfl
 have e3:v3=.int .i64 (.ofNat a.length):=by cases a3 with |p _ _ G=>cases G;rfl
 have e4:v4=.int .i64 (.ofNat lm):=by cases a4 with |p _ _ G=>cases G;rfl
 obtain⟨Y,e5,b7,d6⟩:∃Y,v5=.func (.func g) #[] Y.toArray/\Y.length=E.length/\XE (Ws w (Live O μ (Xj H))) Y E:=by
  cases a5 with |p _ _ G=> ?_
  cases G with |fn _ _ Y hl hc=> ?_
  grind [oc,XE.Uq]
 have V:=hI.RV id b U;unfold Wx at V;rw[X]at V;simp only[ZC,if_false]at V;obtain⟨C,hC,T,d2⟩:=V;obtain⟨K,e1⟩:∃K,v1=.slice (some ⟨μ id,0,none⟩) a.length K:=by
  cases a1 with |own _ _ _ _ b2 g2 o K f4 hv hl g0=> ?_
  simp_all
 subst e1;subst e2;subst e3;subst e4;subst e5;subst hf;by_cases c3:a=[]
 ·subst c3;have d7:Z=[]:=by simpa using G.length_eq
  subst d7;have b0:({b with ch:=([]:Z').map (·.map DL.p)}:Xx)=b:=by
   have :b.ch=[]:=by simpa using b5
   cases b;simp_all
  have c7:H.set id b=H:=by
   obtain⟨R,h2⟩:=Zg.1 hb;apply List.ext_getElem (by simp)
   grind
  rw[b0,c7];refine(AnyF.pdqsortCmpFunc_none L (some ⟨μ id,0,none⟩) K lm (.func (.func g) #[] Y.toArray) w).mono fun e w' ⟨he,hw⟩=> ?_
  subst hw;exact⟨_,μ,he,⟨[],rfl,.nil⟩,hI,WL.refl ..⟩
 ·have c5:0<a.length:=List.length_pos_iff.2 c3
  haveI:Inhabited (Fin a.length):=⟨⟨0,c5⟩⟩
  have a8:b.ch.length=a.length:=by rw[b5];simp
  rw[a8,b1]at T;have r:∀(i:Nat) (c:N'),a[i]? =some c->c.length=k/\XE (Ws w (Live O μ (Xj H))) (Vo C k i) c:=by
   intro i c S;have f8:i<a.length:=(Zg.1 S).1;have R:=d2 i (c.map DL.p) (by grind);rw[b1]at R;have b6:c.length=k:=by simpa using R.1
   refine⟨b6,XE.Uq (by grind [QD]) fun j v d hv hd=> ?_⟩;have J:j<k:=by grind
   rw[QE J]at hv;obtain⟨v',c9,hr⟩:=R.2 j (.p d) (by grind);rw[hv]at c9;cases c9;cases hr with |p _ _ G=>exact G
  have F:∀i:Fin a.length,a[i.val]? =some a[i.val]:=fun i=>Zd i.isLt
  have e6:∀i:Fin a.length,(Vo C k i).length=k:=fun i=>QD T i.isLt
  have d1:∀i:Fin a.length,∀v∈Vo C k i,v.oneCell'=true:=by
   intro i v hv;obtain⟨j,J⟩:=Zv.1 hv;have ha:=(r i _ (F i)).2;have e0:j<a[i.val].length:=by grind
   obtain⟨x,hx,hr⟩:=ha.get j _ (Zd e0);rw[J]at hx;cases hx;exact hr.one
  let B:Array (Fin a.length):=Array.ofFn fun i=>i
  have A:B.size=a.length:=by simp[B]
  have f1:∀i (S:i<a.length),B[i]! =⟨i,S⟩:=by
   intro i S;rw[getElem!_pos B i (by rw[A];exact S)];simp[B]
  have hH:HoldsK (fun i:Fin a.length=>Vo C k i) k w (μ id) 0 B:=by
   intro j J;rw[size_flatK,A]at J;have hf:=cY T B A J;obtain⟨q1,q2,q3⟩:=kI J
   simp_all [World.cell?,World.frozen?]
  have e8:∀q,Live O μ (Xj H) q->q<w.heap.size:=by
   rintro q (hq|⟨i,f3,R,_,rfl⟩)
   ·exact hI.lt q hq
   ·exact hI.lt_size R
  have a9:Live O μ (Xj H) (μ id):=.inr ⟨id,b,U,c0,rfl⟩;have Q:∀(m:Nat) (s:Array (Fin a.length)) (os:Array Obj),RS w (Live O μ (Xj H)) (sortWorldK (fun i:Fin a.length=>Vo C k i) k w (μ id) 0 m s os) (Live O μ (Xj H)):=by
   intro m s os;exact⟨size_sortWorldK_c _ _ _ _ _ _ _ _,fun q hq hl=>Tg _ _ _ _ _ _ _ _ hq fun e=>hl (e▸a9),fun q hq=>.inl hq⟩
  let cf:Fin a.length->Fin a.length->Int:=fun i j=>n a[i.val] a[j.val]
  have a0:∀i:Fin a.length,a[i.val]∈a:=fun i=>Ya i.isLt
  have hO:SWO (ltOf cf):=by
   refine⟨fun x=> ?_,fun x y z R h2=> ?_,fun x y z R h2=> ?_⟩
   ·grind [ltOf]
   ·grind [ltOf]
   grind [ltOf]
  have b7:CmpLays P g Y.toArray (fun i:Fin a.length=>Vo C k i) k cf (μ id) 0 B.size w:=by
   intro m os s f5 x y;have kp:=Q m s os;refine uX (L:=Live O μ (Xj H)) (b8 _ (a0 x) _ (a0 y)) (fun q hq=>ZO (e8 q hq) kp.size) ?_ ?_ ?_
   ·exact((r x _ (F x)).2).imp fun _ _ h=>h.keeps kp
   ·exact((r y _ (F y)).2).imp fun _ _ h=>h.keeps kp
   ·exact d6.imp fun _ _ h=>h.keeps kp
  have b4:μ id<w.heap.size:=hI.lt_size U;have D:=AnyQ.pdqsortCmpFunc_all L k aE zE (fun i:Fin a.length=>Vo C k i) cf g Y.toArray hO (μ id) 0 K B w eg b7 ⟨e6,d1,hH,b4⟩ (a.length+1) 0 a.length lm B w (by omega) rfl (SWK.start hH) (Zw _) (by omega) (by rw[A];exact hn) e7 (Or.inl rfl);rw[A]at D;refine D.mono fun e w' ⟨he,e9⟩=> ?_
  clear D;obtain⟨u,N⟩:=pdq_sorts (ltOf cf) hO B 0 a.length lm true true (Zw _) (by omega) (Or.inl rfl);obtain⟨m,os,rfl⟩:=e9;generalize pdq (ltOf cf) B 0 a.length lm true true=s at u N;obtain⟨c8,-,u⟩:=u;have I:s.size=a.length:=by rw[c8,A]
  have x1:s.extract 0 a.length=s:=Qa s I;have x2:B.extract 0 a.length=B:=Qa B A;rw[x1,x2]at u;have f2:B.toList.map (fun i=>a[i.val])=a:=by
   apply List.ext_getElem (by simp[A])
   grind
  have f7:Z=s.toList.map fun i=>a[i.val]:=by
   have c4:(s.toList.map fun i=>a[i.val]).Perm a:=by
    grind
   refine List.Perm.eq_of_pairwise (le:=fun x y=>¬n y x<0) (fun x y hx hy R h2=>f0 x (G.mem_iff.1 hx) y (c4.mem_iff.1 hy) h2 R) hs ?_ (G.trans c4.symm);rw[List.pairwise_map,List.pairwise_iff_getElem];intro i j S J d8;have:=N i j (Zw _) d8 (by grind)
   grind [ltOf]
  have f6:Z.length=a.length:=G.length_eq;have kp:=Q m s os;have M:=aG (fun i:Fin a.length=>Vo C k i) k w (μ id) m s os hC;have b3:(putCells _root_.id 0 (flatK (fun i:Fin a.length=>Vo C k i) k s) C).size=C.size:=by simp[putCells]
  generalize hW:sortWorldK (fun i:Fin a.length=>Vo C k i) k w (μ id) 0 m s os=W at M kp;have a6:W.os=w.os/\W.tape=w.tape/\W.output=w.output:=by rw[<-hW];exact⟨rfl,rfl,rfl⟩
  have d4:∀q,q<w.heap.size->q≠μ id->W.heap[q]? =w.heap[q]? :=by
   grind [Tg]
  obtain⟨hM,d3⟩:=Rx (b':={b with ch:=Z.map (·.map DL.p)}) hI U X X c0 hC M kp.size d4 (.inl rfl) (Zf _) (fun _=>⟨rfl,rfl,b3⟩) a6.1 a6.2.1 a6.2.2;rw[lU H id _ c1];refine⟨_,_,he,⟨[],rfl,.nil⟩,d3 ?_,hM⟩;refine Wx.D6 (b:={b with ch:=Z.map (·.map DL.p)}) X (by rw[if_pos rfl];exact M) ?_ fun i c S=> ?_
  ·grind
  ·show c.length=b.sz/\∀(j:Nat) (d:DL),c[j]? =some d->∃v,(putCells _root_.id 0 (flatK (fun i:Fin a.length=>Vo C k i) k s) C)[i*b.sz+j]? =some v/\_;simp only[ZR,Option.map_eq_some_iff]at S;obtain⟨c',S,rfl⟩:=S;have c2:i<a.length:=by grind
   have f9:i<s.size:=by rw[I];exact c2
   have d5:c'=a[(s[i]!).val]:=by
    grind
   obtain⟨b6,c6⟩:=r (s[i]!).val c' (by rw[d5];exact F _);refine⟨by grind,fun j d J=> ?_⟩;simp only[ZR,Option.map_eq_some_iff]at J;obtain⟨l,J,rfl⟩:=J;have d9:j<k:=by grind
   obtain⟨v,hv,hr⟩:=c6.get j l J;rw[QE d9]at hv;have ht:i*k+j<a.length*k:=by
    have:=Zm k (show i+1<=a.length from c2)
    grind
   have k0:0<k:=by omega
   have q1:(i*k+j) / k=i:=by simp_all [Nat.add_comm,Nat.add_mul_div_right]
   have q2:(i*k+j)%k=j:=by grind [Nat.add_mul_mod_self_right,Zi]
   have b9:=cY T s I ht;simp only[q1,q2]at b9;rw[hv]at b9;refine⟨v,?_,XH.mono hM (XH.p _ _ hr)⟩;rw[b1];simp only[putCells,Array.getElem?_mapIdx,size_flatK,I]
   grind
theorem HV {g}(J:Nat.blt g bF=true){H}{id j}(x:j≠id){b f}(G:H[id]? =some b)(K:H[j]? =some f)(u:f.mp=false){cs}{rest}(r:f.ch=cs.map DL.p::rest)
  (w) (O) (μ) (v) (A:X1 w O μ (Xj H)) (s:b.fz=false) (y:XF w O μ (Xj H) v (.one (.fn g [.ptr j f.XW 0 0]))):∃k:List Value,v=.func (.func g) #[] k.toArray/\XE (Ws w fun q=>q=μ id) k [.ref cs]:=by
 have h:Xj H j=some f:=K;have m:Xj H id=some b:=G;cases y with |fn _ _ k L I=> ?_
 refine⟨k,oc J k,?_⟩
 match k,L with
 |[v0],_=>
  have h0:=I 0 _ v0 rfl rfl;refine .cons ?_ .nil;cases h0 with |ptr _ _ _ _ Q R o l z P=> ?_
  rw[h]at l;cases l;obtain⟨rfl,D⟩:=P rfl;rw[Nat.zero_mul]at D;subst D;have a:=A.RV j f h;unfold Wx at a;rw[u]at a;simp only[ZC,if_false]at a;obtain⟨C,S,F,n⟩:=a;have E:=(n 0 (cs.map DL.p) (by rw[r];rfl)).2;have c:RS w (Live O μ (Xj H)) w (fun q=>q=μ id):=⟨Zf _,fun _ _ _=>rfl,fun q N=>.inl (by rw[N];exact .inr ⟨id,b,m,s,rfl⟩)⟩;have B:∀(i:Nat) (d:PL),cs[i]? =some d->∃v,C[i]? =some v/\Ws w (fun q=>q=μ id) v d:=by
   intro i d t;obtain⟨v,z,y⟩:=E i (.p d) (by grind);rw[Nat.zero_mul,Yb]at z;cases y with |p _ _ M=>exact⟨v,z,M.keeps c⟩
  refine .ref (μ j) (0+0) cs (fun i=>C[i]!) (fun i d t e=>x (A.inj j id f b h m e)) (fun i d t=> ?_) (fun i d t=> ?_)
  ·grind [World.cell?]
  grind
theorem G5 {P:Program}{ρ:Ren}(L:SlLaysF0.n14 P ρ){k:Nat}(aE:∀w,(isAgg (ρ.t 24)).run P w=.ok true w)(zE:∀w,(Go.sizeOf (ρ.t 24)).run P w=.ok k w){f g:Nat}(hf:ρ.f 14=f)(eg:rH P g)(a6:N')(a0:DV)
  (n:N'->N'->Int) (H:V') (id:Nat) (b:Xx) (a ds:Z') (lm:Nat) (hb:H[id]? =some b) (Z:b.mp=false) (c2:b.fz=false) (b3:b.sz=k) (b8:b.ch=a.map (·.map DL.p))
  (h5:∀(w:World) (O:BS) (μ:Nat->Nat) (v:Value),X1 w O μ (Xj H)->XF w O μ (Xj H) v a0->∃cv:List Value,v=.func (.func g) #[] cv.toArray/\XE (Ws w fun q=>q=μ id) cv a6)
  (f0:lm<4611686018427387904) (hn:a.length<4611686018427387904) (c0:∀x∈a,∀y∈a,CC P g (.agg x::.agg y::a6.map .one) (.one (.int .i64 (n x y))))
  (g5:∀x∈a,¬n x x<0) (tr:∀x∈a,∀y∈a,∀z∈a,n x y<0->n y z<0->n x z<0) (g6:∀x∈a,∀y∈a,∀z∈a,¬n x y<0->¬n y z<0->¬n x z<0)
  (f2:∀x∈a,∀y∈a,¬n x y<0->¬n y x<0->x=y) (J:ds.Perm a) (hs:ds.Pairwise fun x y=>¬n y x<0):
  CH P f [.one (.own id b.XW 0 a.length),.one (.p (.int .i64 (.ofNat 0))),.one (.p (.int .i64 (.ofNat a.length))),.one (.p (.int .i64 (.ofNat lm))),a0] H (.Wd []) (H.set id {b with ch:=ds.map (·.map DL.p)}):=by
 intro w O μ vs hI a9;have c3:id<H.length:=(Zg.1 hb).1;have X:Xj H id=some b:=hb;cases a9 with |cons a1 t=> ?_
 cases t with |cons a2 t=> ?_
 cases t with |cons a3 t=> ?_
 cases t with |cons a4 t=> ?_
 cases t with |cons a5 t=> ?_
 cases t;rename_i v1 v2 v3 v4 v5;have e2:v2=.int .i64 (.ofNat 0):=by cases a2 with |p _ _ J=>cases J;rfl
 have e3:v3=.int .i64 (.ofNat a.length):=by cases a3 with |p _ _ J=>cases J;rfl
 have e4:v4=.int .i64 (.ofNat lm):=by cases a4 with |p _ _ J=>cases J;rfl
 obtain⟨cv,e5,d9⟩:=h5 w O μ v5 hI a5;have Y:=hI.RV id b X;unfold Wx at Y;rw[Z]at Y;simp only[ZC,if_false]at Y;obtain⟨C,hC,V,d4⟩:=Y;obtain⟨M,e1⟩:∃M,v1=.slice (some ⟨μ id,0,none⟩) a.length M:=by
  cases a1 with |own _ _ _ _ b2 g2 o M f6 hv hl g4=> ?_
  simp_all
 subst e1;subst e2;subst e3;subst e4;subst e5;subst hf;by_cases c5:a=[]
 ·subst c5;have e0:ds=[]:=by simpa using J.length_eq
  subst e0;have b1:({b with ch:=([]:Z').map (·.map DL.p)}:Xx)=b:=by
   have :b.ch=[]:=by simpa using b8
   cases b;simp_all
  have c9:H.set id b=H:=by
   obtain⟨T,h2⟩:=Zg.1 hb;apply List.ext_getElem (by simp)
   grind
  rw[b1,c9];refine(AnyF.pdqsortCmpFunc_none L (some ⟨μ id,0,none⟩) M lm (.func (.func g) #[] cv.toArray) w).mono fun e w' ⟨he,hw⟩=> ?_
  subst hw;exact⟨_,μ,he,⟨[],rfl,.nil⟩,hI,WL.refl ..⟩
 ·have c7:0<a.length:=List.length_pos_iff.2 c5
  haveI:Inhabited (Fin a.length):=⟨⟨0,c7⟩⟩
  have b0:b.ch.length=a.length:=by rw[b8];simp
  rw[b0,b3]at V;have r:∀(i:Nat) (c:N'),a[i]? =some c->c.length=k/\XE (Ws w (Live O μ (Xj H))) (Vo C k i) c:=by
   intro i c U;have g0:i<a.length:=(Zg.1 U).1;have T:=d4 i (c.map DL.p) (by grind);rw[b3]at T;have b9:c.length=k:=by simpa using T.1
   refine⟨b9,XE.Uq (by grind [QD]) fun j v d hv hd=> ?_⟩;have I:j<k:=by grind
   rw[QE I]at hv;obtain⟨v',d2,hr⟩:=T.2 j (.p d) (by grind);rw[hv]at d2;cases d2;cases hr with |p _ _ J=>exact J
  have E:∀i:Fin a.length,a[i.val]? =some a[i.val]:=fun i=>Zd i.isLt
  have e9:∀i:Fin a.length,(Vo C k i).length=k:=fun i=>QD V i.isLt
  have d3:∀i:Fin a.length,∀v∈Vo C k i,v.oneCell'=true:=by
   intro i v hv;obtain⟨j,I⟩:=Zv.1 hv;have ha:=(r i _ (E i)).2;have e8:j<a[i.val].length:=by grind
   obtain⟨x,hx,hr⟩:=ha.get j _ (Zd e8);rw[I]at hx;cases hx;exact hr.one
  let B:Array (Fin a.length):=Array.ofFn fun i=>i
  have A:B.size=a.length:=by simp[B]
  have f3:∀i (U:i<a.length),B[i]! =⟨i,U⟩:=by
   intro i U;rw[getElem!_pos B i (by rw[A];exact U)];simp[B]
  have hH:HoldsK (fun i:Fin a.length=>Vo C k i) k w (μ id) 0 B:=by
   intro j I;rw[size_flatK,A]at I;have hf:=cY V B A I;obtain⟨q1,q2,q3⟩:=kI I
   simp_all [World.cell?,World.frozen?]
  have g3:∀q,Live O μ (Xj H) q->q<w.heap.size:=by
   rintro q (K|⟨i,f5,T,_,rfl⟩)
   ·exact hI.lt q K
   ·exact hI.lt_size T
  have N:Live O μ (Xj H) (μ id):=.inr ⟨id,b,X,c2,rfl⟩;have b5:∀(m:Nat) (s:Array (Fin a.length)) (S:Array Obj),RS w (Live O μ (Xj H)) (sortWorldK (fun i:Fin a.length=>Vo C k i) k w (μ id) 0 m s S) (Live O μ (Xj H)):=by
   intro m s S;exact⟨size_sortWorldK_c _ _ _ _ _ _ _ _,fun q K hl=>Tg _ _ _ _ _ _ _ _ K fun e=>hl (e▸N),fun q K=>.inl K⟩
  let cf:Fin a.length->Fin a.length->Int:=fun i j=>n a[i.val] a[j.val]
  have a7:∀i:Fin a.length,a[i.val]∈a:=fun i=>Ya i.isLt
  have hO:SWO (ltOf cf):=by
   refine⟨fun x=> ?_,fun x y z T h2=> ?_,fun x y z T h2=> ?_⟩
   ·grind [ltOf]
   ·grind [ltOf]
   grind [ltOf]
  have b4:∀(m:Nat) (s:Array (Fin a.length)) (S:Array Obj),RS w (fun q=>q=μ id) (sortWorldK (fun i:Fin a.length=>Vo C k i) k w (μ id) 0 m s S) (fun q=>q=μ id):=
   fun m s S=>⟨size_sortWorldK_c _ _ _ _ _ _ _ _,fun q K hl=>Tg _ _ _ _ _ _ _ _ K hl,fun q K=>.inl K⟩
  have G:RS w (Live O μ (Xj H)) w (fun q=>q=μ id):=⟨Zf _,fun _ _ _=>rfl,fun q K=>.inl (by rw[K];exact N)⟩;have d8:CmpLays P g cv.toArray (fun i:Fin a.length=>Vo C k i) k cf (μ id) 0 B.size w:=by
   intro m S s f7 x y;have kp:=b4 m s S;refine uX (L:=fun q=>q=μ id) (c0 _ (a7 x) _ (a7 y)) (fun q K=>ZO (by grind) kp.size) ?_ ?_ ?_
   ·exact((r x _ (E x)).2).imp fun _ _ h=>(h.keeps G).keeps kp
   ·exact((r y _ (E y)).2).imp fun _ _ h=>(h.keeps G).keeps kp
   ·exact d9.imp fun _ _ h=>h.keeps kp
  have b7:μ id<w.heap.size:=hI.lt_size X;have D:=AnyQ.pdqsortCmpFunc_all L k aE zE (fun i:Fin a.length=>Vo C k i) cf g cv.toArray hO (μ id) 0 M B w eg d8 ⟨e9,d3,hH,b7⟩ (a.length+1) 0 a.length lm B w (by omega) rfl (SWK.start hH) (Zw _) (by omega) (by rw[A];exact hn) f0 (Or.inl rfl);rw[A]at D;refine D.mono fun e w' ⟨he,f1⟩=> ?_
  clear D;obtain⟨u,R⟩:=pdq_sorts (ltOf cf) hO B 0 a.length lm true true (Zw _) (by omega) (Or.inl rfl);obtain⟨m,S,rfl⟩:=f1;generalize pdq (ltOf cf) B 0 a.length lm true true=s at u R;obtain⟨d1,-,u⟩:=u;have F:s.size=a.length:=by rw[d1,A]
  have x1:s.extract 0 a.length=s:=Qa s F;have x2:B.extract 0 a.length=B:=Qa B A;rw[x1,x2]at u;have f4:B.toList.map (fun i=>a[i.val])=a:=by
   apply List.ext_getElem (by simp[A])
   grind
  have f9:ds=s.toList.map fun i=>a[i.val]:=by
   have c6:(s.toList.map fun i=>a[i.val]).Perm a:=by
    grind
   refine List.Perm.eq_of_pairwise (le:=fun x y=>¬n y x<0) (fun x y hx hy T h2=>f2 x (J.mem_iff.1 hx) y (c6.mem_iff.1 hy) h2 T) hs ?_ (J.trans c6.symm);rw[List.pairwise_map,List.pairwise_iff_getElem];intro i j U I e6;have:=R i j (Zw _) e6 (by grind)
   grind [ltOf]
  have f8:ds.length=a.length:=J.length_eq;have kp:=b5 m s S;have Q:=aG (fun i:Fin a.length=>Vo C k i) k w (μ id) m s S hC;have b6:(putCells _root_.id 0 (flatK (fun i:Fin a.length=>Vo C k i) k s) C).size=C.size:=by simp[putCells]
  generalize hW:sortWorldK (fun i:Fin a.length=>Vo C k i) k w (μ id) 0 m s S=W at Q kp;have a8:W.os=w.os/\W.tape=w.tape/\W.output=w.output:=by rw[<-hW];exact⟨rfl,rfl,rfl⟩
  have d6:∀q,q<w.heap.size->q≠μ id->W.heap[q]? =w.heap[q]? :=by
   grind [Tg]
  obtain⟨hM,d5⟩:=Rx (b':={b with ch:=ds.map (·.map DL.p)}) hI X Z Z c2 hC Q kp.size d6 (.inl rfl) (Zf _) (fun _=>⟨rfl,rfl,b6⟩) a8.1 a8.2.1 a8.2.2;rw[lU H id _ c3];refine⟨_,_,he,⟨[],rfl,.nil⟩,d5 ?_,hM⟩;refine Wx.D6 (b:={b with ch:=ds.map (·.map DL.p)}) Z (by rw[if_pos rfl];exact Q) ?_ fun i c U=> ?_
  ·grind
  ·show c.length=b.sz/\∀(j:Nat) (d:DL),c[j]? =some d->∃v,(putCells _root_.id 0 (flatK (fun i:Fin a.length=>Vo C k i) k s) C)[i*b.sz+j]? =some v/\_;simp only[ZR,Option.map_eq_some_iff]at U;obtain⟨c',U,rfl⟩:=U;have c4:i<a.length:=by grind
   have g1:i<s.size:=by rw[F];exact c4
   have d7:c'=a[(s[i]!).val]:=by
    grind
   obtain⟨b9,c8⟩:=r (s[i]!).val c' (by rw[d7];exact E _);refine⟨by grind,fun j d I=> ?_⟩;simp only[ZR,Option.map_eq_some_iff]at I;obtain⟨l,I,rfl⟩:=I;have e7:j<k:=by grind
   obtain⟨v,hv,hr⟩:=c8.get j l I;rw[QE e7]at hv;have ht:i*k+j<a.length*k:=by
    have:=Zm k (show i+1<=a.length from c4)
    grind
   have k0:0<k:=by omega
   have q1:(i*k+j) / k=i:=by simp_all [Nat.add_comm,Nat.add_mul_div_right]
   have q2:(i*k+j)%k=j:=by grind [Nat.add_mul_mod_self_right,Zi]
   have c1:=cY V s F ht;simp only[q1,q2]at c1;rw[hv]at c1;refine⟨v,?_,XH.mono hM (XH.p _ _ hr)⟩;rw[b3];simp only[putCells,Array.getElem?_mapIdx,size_flatK,F]
   grind
theorem G3 {P}{g:Ren}(L:SlLaysF0.n14 P g){f}(q:g.f 14=f)(d)(c)(H):
  CH P f [.one (.p .Xp),.one (.p (.int .i64 (.ofNat 0))),.one (.p (.int .i64 (.ofNat 0))),.one (.p (.int .i64 (.ofNat d))),c] H (.Wd []) H:=by
 intro w O μ A n a;cases a with |cons h t=> ?_
 cases t with |cons i t=> ?_
 cases t with |cons j t=> ?_
 cases t with |cons k t=> ?_
 cases t with |cons z t=> ?_
 cases t;rename_i s u v x y;have e1:s=.slice none 0 0:=by cases h with |p _ _ b=>cases b;rfl
 have e2:u=.int .i64 (.ofNat 0):=by cases i with |p _ _ b=>cases b;rfl
 have l:v=.int .i64 (.ofNat 0):=by cases j with |p _ _ b=>cases b;rfl
 have m:x=.int .i64 (.ofNat d):=by cases k with |p _ _ b=>cases b;rfl
 subst e1;subst e2;subst l;subst m;subst q;refine(AnyF.pdqsortCmpFunc_none L none 0 d y w).mono fun e B ⟨o,r⟩=> ?_
 subst r;exact⟨_,μ,o,⟨[],rfl,.nil⟩,n,WL.refl ..⟩
