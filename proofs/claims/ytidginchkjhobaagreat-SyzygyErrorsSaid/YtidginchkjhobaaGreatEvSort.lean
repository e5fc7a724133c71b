/- The library's sort, as a call over the caller's blocks: the chunks of a slice end up in the one order in which they are sorted. -/
import Derived.Test.YtidginchkjhobaaGreatEvTop
import Derived.Test.YtidginchkjhobaaGreatEvDrawn
import Derived.Lib.QuietBelow
import Derived.Shelf.SlSortCmp.NoneTotal
set_option maxHeartbeats 16000000
namespace Go.Ev
open Go.RowKit Go.Shelf Go.Lib Go.Sort Go.Proofs
section
variable {P:Program}{O:BS}{w:World}{μ:Nat->Nat}{h:HF}
theorem pD {g:Nat}{a:List PL}{j:List Value}{x y:List PL}{f i:List Value}{z:Int}{W:World}{L:BS}(w:CC P g (.agg x::.agg y::a.map .one) (.one (.int .i64 z)))
  (E:∀b,L b->b<W.heap.size) (G:XF (Wt W L) f x) (H:XF (Wt W L) i y) (m:XF (Wt W L) j a):
  Calls P g (#[.agg f.toArray,.agg i.toArray]++j.toArray) W fun e l=>e=.returned (.int .i64 z)/\∃q t,l=grow (W.drewN q) t:=by
 have lift:∀{u:List Value} {s:List PL},XF (Wt W L) u s->XF (XL W L μ0 h0) u (s.map .p):=by
  intro u s C;induction C with
  |nil=>exact .nil
  |cons h _ r=>exact .cons (.p _ _ (by rw[RX];exact h)) r
 have c:XF (fun v p=>XB W L μ0 h0 v (inj p)) (.agg f.toArray::.agg i.toArray::j) (.agg x::.agg y::a.map .one):=by
  refine .cons ⟨f,rfl,lift G⟩ (.cons ⟨i,rfl,lift H⟩ ?_);clear w;induction m with
  |nil=>exact .nil
  |cons h _ r=>exact .cons (XL.p _ _ (by rw[RX];exact h)) r
 have A:=w W L _ E c;have B:=pK A (fun e l ⟨v,n,_⟩=>⟨v,n⟩);have e:(#[.agg f.toArray,.agg i.toArray]++j.toArray)=(Value.agg f.toArray::.agg i.toArray::j).toArray:=by simp
 rw[e];refine B.mono fun e l ⟨⟨v,n,F,D⟩,I⟩=> ?_
 have o:v=.int .i64 z:=by
  cases F with
  |p _ _ k=>cases k;rfl
 subst o;refine⟨n,?_⟩;obtain⟨p,k⟩:=regrown_of_below D;refine⟨p.d-W.drawn,p.os,?_⟩;have :l.drawn=p.d:=by rw[k];rfl
 rw[k];have e2:W.drawn+(p.d-W.drawn)=p.d:=by omega
 unfold redrawn World.drewN;rw[e2]
theorem WJ.yJ {id:Nat}{b:Xz}(g:b.mp=false){C:Array Value}(a:w.heap[μ id]? =some (.cells C b.ty (0,0)))(f:b.ch.length*b.sz<=C.size)
  (e:∀(i:Nat) (c:List DL),b.ch[i]? =some c->c.length=b.sz/\∀(j:Nat) (d:DL),c[j]? =some d->∃v,C[i*b.sz+j]? =some v/\XL w O μ h v d):WJ w O μ h id b:=by
 unfold WJ;rw[g,if_neg (by simp)];exact⟨C,a,f,e⟩
theorem UI {f:Type}[Inhabited f](c:f->List Value)(k:Nat)(w:World)(a m:Nat)(g:Array f)(i:Array Obj)(b:Nat)(h:b<w.heap.size)(d:b≠a):(sortWorldK c k w a 0 m g i).heap[b]? =w.heap[b]? :=by
 unfold sortWorldK grow putRowK putRow mapBlock Sort.ahead;rw[Array.getElem?_append_left (by simpa using h),Array.getElem?_modify,if_neg (fun e=>d e.symm)]
theorem OX {c:Type}[Inhabited c](b:c->List Value)(k:Nat)(w:World)(a m:Nat)(d:Array c)(g:Array Obj){C:Array Value}{T:TypeId}(e:w.heap[a]? =some (.cells C T (0,0))):
  (sortWorldK b k w a 0 m d g).heap[a]? =some (.cells (putCells id 0 (flatK b k d) C) T (0,0)):=by
 have f:a<w.heap.size:=(Ya.1 e).1;unfold sortWorldK grow putRowK putRow mapBlock Sort.ahead;rw[Array.getElem?_append_left (by simpa using f),Array.getElem?_modify,if_pos rfl,e];rfl
theorem Ri {b:Type}(a:Array b){n:Nat}(h:a.size=n):a.extract 0 n=a:=by subst h;exact Array.extract_size
def W4 (C:Array Value)(k:Nat)(i:Nat):List Value:=(C.toList.drop (i*k)).take k
theorem RF {C:Array Value}{k n i:Nat}(h:n*k<=C.size)(a:i<n):(W4 C k i).length=k:=by
 have:=Zp k (show i+1<=n from a);rw[ZG,ZZ]at this;simp only[W4,ZO,List.length_drop,YH];omega
theorem RG {C:Array Value}{k i j:Nat}(a:j<k):(W4 C k i)[j]? =C[i*k+j]? :=by
 rw[W4,Z7,if_pos a,Ye,Array.getElem?_toList]
theorem gl {k n t:Nat}(h:t<n*k):t / k<n/\t%k<k/\t / k*k+t%k=t:=by
 have a:0<k:=by
  rcases Yh k with e|e
  ·subst e;simp at h
  ·exact e
 exact⟨Yp (by rw[ZH];exact h),ZY _ a,Nat.div_add_mod' t k⟩
theorem aA {n k:Nat}[Inhabited (Fin n)]{C:Array Value}(h:n*k<=C.size)(a:Array (Fin n))(e:a.size=n){t:Nat}(d:t<n*k):
  some ((flatK (fun i:Fin n=>W4 C k i) k a)[t]!)=C[(a[t / k]!).val*k+t%k]? :=by
 obtain⟨f,b,g⟩:=gl d;rw[get_flatK _ _ _ _ (by rw[e];exact d)];have c:=RF h (a[t / k]!).isLt;rw[<-RG b];rw[getElem!_pos _ _ (by rw[c];exact b),Zf (by rw[c];exact b)]
end
theorem Dj {P:Program}{ρ:Ren}(L:SlLaysF0.n14 P ρ){k:Nat}(aE:∀w,(isAgg (ρ.t 24)).run P w=.ok true w)(zE:∀w,(Go.sizeOf (ρ.t 24)).run P w=.ok k w){f g:Nat}(hf:ρ.f 14=f)(hg:Nat.blt g NA=true)(eg:mz P g)(K:List PL)
  (n:List PL->List PL->Int) (H:List Xz) (id:Nat) (b:Xz) (a ds:List (List PL)) (lm:Nat) (hb:H[id]? =some b) (a6:b.mp=false) (c4:b.fz=false) (X:b.sz=k) (b0:b.ch=a.map (·.map DL.p))
  (f3:lm<4611686018427387904) (hn:a.length<4611686018427387904) (c0:∀x∈a,∀y∈a,CC P g (.agg x::.agg y::K.map .one) (.one (.int .i64 (n x y))))
  (f7:∀x∈a,¬n x x<0) (tr:∀x∈a,∀y∈a,∀z∈a,n x y<0->n y z<0->n x z<0) (f8:∀x∈a,∀y∈a,∀z∈a,¬n x y<0->¬n y z<0->¬n x z<0)
  (f9:∀x∈a,∀y∈a,¬n x y<0->¬n y x<0->x=y) (N:ds.Perm a) (hs:ds.Pairwise fun x y=>¬n y x<0):
  CH P f [.one (.own id b.XX 0 a.length),.one (.p (.int .i64 (.ofNat 0))),.one (.p (.int .i64 (.ofNat a.length))),.one (.p (.int .i64 (.ofNat lm))),.one (.p (.fn g K))] H (.XZ []) (H.set id {b with ch:=ds.map (·.map DL.p)}):=by
 intro w O μ vs hI a9;have c6:id<H.length:=(Zb.1 hb).1;have T:Xn H id=some b:=hb;cases a9 with |cons a1 t=> ?_
 cases t with |cons a2 t=> ?_
 cases t with |cons a3 t=> ?_
 cases t with |cons a4 t=> ?_
 cases t with |cons a5 t=> ?_
 cases t;rename_i v1 v2 v3 v4 v5;have e2:v2=.int .i64 (.ofNat 0):=by cases a2 with |p _ _ N=>cases N;rfl
 have e3:v3=.int .i64 (.ofNat a.length):=by cases a3 with |p _ _ N=>cases N;rfl
 have e4:v4=.int .i64 (.ofNat lm):=by cases a4 with |p _ _ N=>cases N;rfl
 obtain⟨Z,e5,b9,e6⟩:∃Z,v5=.func (.func g) #[] Z.toArray/\Z.length=K.length/\XF (Wt w (Live O μ (Xn H))) Z K:=by
  cases a5 with |p _ _ N=> ?_
  cases N with |fn _ _ Z hl hc=> ?_
  refine⟨Z,jH hg Z,hl,XF.VS hl fun i x y hx hy=>hc i y x hy hx⟩
 have a0:=hI.QG id b T;unfold WJ at a0;rw[a6]at a0;simp only[Zz,if_false]at a0;obtain⟨C,hC,R,d7⟩:=a0;obtain⟨Q,e1⟩:∃Q,v1=.slice (some ⟨μ id,0,none⟩) a.length Q:=by
  cases a1 with |own _ _ _ _ b2 g2 o Q b7 hv hl f5=> ?_
  rw[T]at b7;cases b7;obtain⟨rfl,C2,T2,g1,hd⟩:=f5 rfl;rcases hd with⟨ho,-,-⟩|⟨-,-,h0⟩
  ·rw[Y4]at ho;subst ho;exact⟨Q,rfl⟩
  ·omega
 subst e1;subst e2;subst e3;subst e4;subst e5;subst hf;by_cases c8:a=[]
 ·subst c8;have e7:ds=[]:=by simpa using N.length_eq
  subst e7;have b6:({b with ch:=([]:List (List PL)).map (·.map DL.p)}:Xz)=b:=by
   have :b.ch=[]:=by simpa using b0
   cases b;simp_all
  have d3:H.set id b=H:=by
   obtain⟨G,h2⟩:=Zb.1 hb;apply List.ext_getElem (by simp);intro i h3 h4;rw[List.getElem_set];split
   ·rename_i e;subst e;exact h2.symm
   ·rfl
  rw[b6,d3];refine(AnyF.pdqsortCmpFunc_none L (some ⟨μ id,0,none⟩) Q lm (.func (.func g) #[] Z.toArray) w).mono fun e w' ⟨he,hw⟩=> ?_
  subst hw;exact⟨_,μ,he,⟨[],rfl,.nil⟩,hI,WD.refl ..⟩
 ·have d1:0<a.length:=List.length_pos_iff.2 c8
  haveI:Inhabited (Fin a.length):=⟨⟨0,d1⟩⟩
  have b4:b.ch.length=a.length:=by rw[b0];simp
  rw[b4,X]at R;have s:∀(i:Nat) (c:List PL),a[i]? =some c->c.length=k/\XF (Wt w (Live O μ (Xn H))) (W4 C k i) c:=by
   intro i c I;have e9:i<a.length:=(Zb.1 I).1;have G:=d7 i (c.map DL.p) (by rw[b0,ZA,I];rfl);rw[X]at G;have S:c.length=k:=by simpa using G.1
   refine⟨S,XF.VS (by rw[RF R e9,S]) fun j v d hv hd=> ?_⟩;have E:j<k:=by rw[<-S];exact(Zb.1 hd).1
   rw[RG E]at hv;obtain⟨v',d5,hr⟩:=G.2 j (.p d) (by rw[ZA,hd];rfl);rw[hv]at d5;cases d5;cases hr with |p _ _ N=>exact N
  have M:∀i:Fin a.length,a[i.val]? =some a[i.val]:=fun i=>Zf i.isLt
  have f2:∀i:Fin a.length,(W4 C k i).length=k:=fun i=>RF R i.isLt
  have d6:∀i:Fin a.length,∀v∈W4 C k i,v.oneCell'=true:=by
   intro i v hv;obtain⟨j,E⟩:=ZC.1 hv;have ha:=(s i _ (M i)).2;have f1:j<a[i.val].length:=by rw[<-ha.length];exact(Zb.1 E).1
   obtain⟨x,hx,hr⟩:=ha.get j _ (Zf f1);rw[E]at hx;cases hx;exact hr.one
  let D:Array (Fin a.length):=Array.ofFn fun i=>i
  have B:D.size=a.length:=by simp[D]
  have c1:∀i (I:i<a.length),D[i]! =⟨i,I⟩:=by
   intro i I;rw[getElem!_pos D i (by rw[B];exact I)];simp[D]
  have hH:HoldsK (fun i:Fin a.length=>W4 C k i) k w (μ id) 0 D:=by
   intro j E;rw[size_flatK,B]at E;have hf:=aA R D B E;obtain⟨q1,q2,q3⟩:=gl E;rw[c1 _ q1]at hf;rw[q3]at hf;have g4:j<C.size:=by omega
   refine⟨?_,?_⟩
   ·simp only[World.cell?,hC,Z8];simpa using hf.symm
   ·simp[World.frozen?,hC]
  have f4:∀q,Live O μ (Xn H) q->q<w.heap.size:=by
   rintro q (hq|⟨i,g0,G,_,rfl⟩)
   ·exact hI.lt q hq
   ·exact hI.lt_size G
  have b5:Live O μ (Xn H) (μ id):=.inr ⟨id,b,T,c4,rfl⟩;have Y:∀(m:Nat) (u:Array (Fin a.length)) (os:Array Obj),S4 w (Live O μ (Xn H)) (sortWorldK (fun i:Fin a.length=>W4 C k i) k w (μ id) 0 m u os) (Live O μ (Xn H)):=by
   intro m u os;exact⟨size_sortWorldK_c _ _ _ _ _ _ _ _,fun q hq hl=>UI _ _ _ _ _ _ _ _ hq fun e=>hl (e▸b5),fun q hq=>.inl hq⟩
  let cf:Fin a.length->Fin a.length->Int:=fun i j=>n a[i.val] a[j.val]
  have r:∀i:Fin a.length,a[i.val]∈a:=fun i=>Yz i.isLt
  have hO:SWO (ltOf cf):=by
   refine⟨fun x=> ?_,fun x y z G h2=> ?_,fun x y z G h2=> ?_⟩
   ·simp only[ltOf,cf,decide_eq_false_iff_not];exact f7 _ (r x)
   ·simp only[ltOf,cf,decide_eq_true_eq]at *;exact tr _ (r x) _ (r y) _ (r z) G h2
   ·simp only[ltOf,cf,decide_eq_false_iff_not]at *;exact f8 _ (r x) _ (r y) _ (r z) G h2
  have b9:CmpLays P g Z.toArray (fun i:Fin a.length=>W4 C k i) k cf (μ id) 0 D.size w:=by
   intro m os u g3 x y;have kp:=Y m u os;refine pD (L:=Live O μ (Xn H)) (c0 _ (r x) _ (r y)) (fun q hq=>Z2 (f4 q hq) kp.size) ?_ ?_ ?_
   ·exact((s x _ (M x)).2).imp fun _ _ h=>h.keeps kp
   ·exact((s y _ (M y)).2).imp fun _ _ h=>h.keeps kp
   ·exact e6.imp fun _ _ h=>h.keeps kp
  have b8:μ id<w.heap.size:=hI.lt_size T;have J:=AnyQ.pdqsortCmpFunc_all L k aE zE (fun i:Fin a.length=>W4 C k i) cf g Z.toArray hO (μ id) 0 Q D w eg b9 ⟨f2,d6,hH,b8⟩ (a.length+1) 0 a.length lm D w (by omega) rfl (SWK.start hH) (Zt _) (by rw[B];exact Zh _) (by rw[B];exact hn) f3 (Or.inl rfl);rw[B]at J;refine J.mono fun e w' ⟨he,f6⟩=> ?_
  clear J;obtain⟨A,V⟩:=pdq_sorts (ltOf cf) hO D 0 a.length lm true true (Zt _) (by rw[B];exact Zh _) (Or.inl rfl);obtain⟨m,os,rfl⟩:=f6;generalize pdq (ltOf cf) D 0 a.length lm true true=u at A V;obtain⟨d4,-,A⟩:=A;have F:u.size=a.length:=by rw[d4,B]
  have x1:u.extract 0 a.length=u:=Ri u F;have x2:D.extract 0 a.length=D:=Ri D B;rw[x1,x2]at A;have c2:D.toList.map (fun i=>a[i.val])=a:=by
   apply List.ext_getElem (by simp[B]);intro i G h2;simp[D]
  have e8:ds=u.toList.map fun i=>a[i.val]:=by
   have c9:(u.toList.map fun i=>a[i.val]).Perm a:=by
    have:=A.map fun i:Fin a.length=>a[i.val]
    rwa[c2]at this
   refine List.Perm.eq_of_pairwise (le:=fun x y=>¬n y x<0) (fun x y hx hy G h2=>f9 x (N.mem_iff.1 hx) y (c9.mem_iff.1 hy) h2 G) hs ?_ (N.trans c9.symm);rw[List.pairwise_map,List.pairwise_iff_getElem];intro i j I E f0;have:=V i j (Zt _) f0 (by rw[<-F];simpa using E);rw[getElem!_pos u i (by simpa using I),getElem!_pos u j (by simpa using E)]at this;simpa[ltOf,cf]using this
  have c3:ds.length=a.length:=N.length_eq;have kp:=Y m u os;have U:=OX (fun i:Fin a.length=>W4 C k i) k w (μ id) m u os hC;have a7:(putCells _root_.id 0 (flatK (fun i:Fin a.length=>W4 C k i) k u) C).size=C.size:=by simp[putCells]
  generalize hW:sortWorldK (fun i:Fin a.length=>W4 C k i) k w (μ id) 0 m u os=W at U kp;have a8:W.os=w.os/\W.tape=w.tape/\W.output=w.output:=by rw[<-hW];exact⟨rfl,rfl,rfl⟩
  have d9:∀q,q<w.heap.size->q≠μ id->W.heap[q]? =w.heap[q]? :=by
   intro q G h2;rw[<-hW];exact UI _ _ _ _ _ _ _ _ G h2
  obtain⟨hM,d8⟩:=SH (b':={b with ch:=ds.map (·.map DL.p)}) hI T a6 a6 c4 hC U kp.size d9 (.inl rfl) (Zh _) (fun _=>⟨rfl,rfl,a7⟩) a8.1 a8.2.1 a8.2.2;rw[gY H id _ c6];refine⟨_,_,he,⟨[],rfl,.nil⟩,d8 ?_,hM⟩;refine WJ.yJ (b:={b with ch:=ds.map (·.map DL.p)}) a6 (by rw[if_pos rfl];exact U) ?_ fun i c I=> ?_
  ·show(ds.map (·.map DL.p)).length*b.sz<=_;rw[a7,ZP,c3,X];exact R
  ·show c.length=b.sz/\∀(j:Nat) (d:DL),c[j]? =some d->∃v,(putCells _root_.id 0 (flatK (fun i:Fin a.length=>W4 C k i) k u) C)[i*b.sz+j]? =some v/\_;simp only[ZA,Option.map_eq_some_iff]at I;obtain⟨c',I,rfl⟩:=I;have c7:i<a.length:=by rw[<-c3];exact(Zb.1 I).1
   have c5:i<u.size:=by rw[F];exact c7
   have e0:c'=a[(u[i]!).val]:=by
    rw[e8,ZA,Array.getElem?_toList,Array.getElem?_eq_getElem c5]at I;have hg:=getElem!_pos u i c5;simp only[hg];simpa using I.symm
   obtain⟨S,d2⟩:=s (u[i]!).val c' (by rw[e0];exact M _);refine⟨by rw[X];simpa using S,fun j d E=> ?_⟩;simp only[ZA,Option.map_eq_some_iff]at E;obtain⟨l,E,rfl⟩:=E;have b3:j<k:=by rw[<-S];exact(Zb.1 E).1
   obtain⟨v,hv,hr⟩:=d2.get j l E;rw[RG b3]at hv;have ht:i*k+j<a.length*k:=by
    have:=Zp k (show i+1<=a.length from c7);rw[ZG,ZZ]at this;omega
   have k0:0<k:=by omega
   have q1:(i*k+j) / k=i:=by rw[Y1,Nat.add_mul_div_right _ _ k0,YY b3,Z8]
   have q2:(i*k+j)%k=j:=by rw[Y1,Nat.add_mul_mod_self_right,Zg b3]
   have b1:=aA R u F ht;simp only[q1,q2]at b1;rw[hv]at b1;refine⟨v,?_,XL.mono hM (XL.p _ _ hr)⟩;rw[X];simp only[putCells,Array.getElem?_mapIdx,size_flatK,F];rw[Array.getElem?_eq_getElem (by omega),Z4,if_pos ⟨Zt _,by omega⟩];simpa using b1
end Go.Ev
namespace Go.Ev
open Go.RowKit Go.Shelf Go.Lib Go.Sort Go.Proofs
theorem B8 {g:Nat}(K:Nat.blt g NA=true){H:List Xz}{id j:Nat}(A:j≠id){b k:Xz}(I:H[id]? =some b)(L:H[j]? =some k)(z:k.mp=false){cs:List PL}{rest:List (List DL)}(x:k.ch=cs.map DL.p::rest)
  (w:World) (O:BS) (μ:Nat->Nat) (v:Value) (B:X0 w O μ (Xn H)) (y:b.fz=false) (r:XB w O μ (Xn H) v (.one (.fn g [.ptr j k.XX 0 0]))):∃m:List Value,v=.func (.func g) #[] m.toArray/\XF (Wt w fun q=>q=μ id) m [.ref cs]:=by
 have l:Xn H j=some k:=L;have t:Xn H id=some b:=I;cases r with |fn _ _ m M J=> ?_
 refine⟨m,jH K m,?_⟩
 match m,M with
 |[v0],_=>
  have h0:=J 0 _ v0 rfl rfl;refine .cons ?_ .nil;cases h0 with |ptr _ _ _ _ R S o s h Q=> ?_
  rw[l]at s;cases s;obtain⟨rfl,D⟩:=Q rfl;rw[Y4]at D;subst D;have a:=B.QG j k l;unfold WJ at a;rw[z]at a;simp only[Zz,if_false]at a;obtain⟨C,F,G,u⟩:=a;have E:=(u 0 (cs.map DL.p) (by rw[x];rfl)).2;have c:S4 w (Live O μ (Xn H)) w (fun q=>q=μ id):=⟨Zh _,fun _ _ _=>rfl,fun q P=>.inl (by rw[P];exact .inr ⟨id,b,t,y,rfl⟩)⟩;have f:∀(i:Nat) (d:PL),cs[i]? =some d->∃v,C[i]? =some v/\Wt w (fun q=>q=μ id) v d:=by
   intro i d n;obtain⟨v,h,r⟩:=E i (.p d) (by rw[ZA,n];rfl);rw[Y4,Z8]at h;cases r with |p _ _ N=>exact⟨v,h,N.keeps c⟩
  refine .ref (μ j) (0+0) cs (fun i=>C[i]!) (fun i d n e=>A (B.inj j id k b l t e)) (fun i d n=> ?_) (fun i d n=> ?_)
  ·obtain⟨v,h,r⟩:=f i d n;simp only[World.cell?,F,Z8];rw[h,getElem!_def,h];rfl
  ·obtain⟨v,h,r⟩:=f i d n;rw[getElem!_def,h];exact r
theorem Bv {P:Program}{ρ:Ren}(L:SlLaysF0.n14 P ρ){k:Nat}(aE:∀w,(isAgg (ρ.t 24)).run P w=.ok true w)(zE:∀w,(Go.sizeOf (ρ.t 24)).run P w=.ok k w){f g:Nat}(hf:ρ.f 14=f)(eg:mz P g)(a8:List PL)(a7:DV)
  (n:List PL->List PL->Int) (H:List Xz) (id:Nat) (b:Xz) (a ds:List (List PL)) (lm:Nat) (hb:H[id]? =some b) (a6:b.mp=false) (c6:b.fz=false) (Z:b.sz=k) (b3:b.ch=a.map (·.map DL.p))
  (h5:∀(w:World) (O:BS) (μ:Nat->Nat) (v:Value),X0 w O μ (Xn H)->XB w O μ (Xn H) v a7->∃cv:List Value,v=.func (.func g) #[] cv.toArray/\XF (Wt w fun q=>q=μ id) cv a8)
  (f6:lm<4611686018427387904) (hn:a.length<4611686018427387904) (c2:∀x∈a,∀y∈a,CC P g (.agg x::.agg y::a8.map .one) (.one (.int .i64 (n x y))))
  (f9:∀x∈a,¬n x x<0) (tr:∀x∈a,∀y∈a,∀z∈a,n x y<0->n y z<0->n x z<0) (g0:∀x∈a,∀y∈a,∀z∈a,¬n x y<0->¬n y z<0->¬n x z<0)
  (g1:∀x∈a,∀y∈a,¬n x y<0->¬n y x<0->x=y) (U:ds.Perm a) (hs:ds.Pairwise fun x y=>¬n y x<0):
  CH P f [.one (.own id b.XX 0 a.length),.one (.p (.int .i64 (.ofNat 0))),.one (.p (.int .i64 (.ofNat a.length))),.one (.p (.int .i64 (.ofNat lm))),a7] H (.XZ []) (H.set id {b with ch:=ds.map (·.map DL.p)}):=by
 intro w O μ vs hI b1;have c8:id<H.length:=(Zb.1 hb).1;have R:Xn H id=some b:=hb;cases b1 with |cons a1 t=> ?_
 cases t with |cons a2 t=> ?_
 cases t with |cons a3 t=> ?_
 cases t with |cons a4 t=> ?_
 cases t with |cons a5 t=> ?_
 cases t;rename_i v1 v2 v3 v4 v5;have e2:v2=.int .i64 (.ofNat 0):=by cases a2 with |p _ _ U=>cases U;rfl
 have e3:v3=.int .i64 (.ofNat a.length):=by cases a3 with |p _ _ U=>cases U;rfl
 have e4:v4=.int .i64 (.ofNat lm):=by cases a4 with |p _ _ U=>cases U;rfl
 obtain⟨cv,e5,e9⟩:=h5 w O μ v5 hI a5;have a0:=hI.QG id b R;unfold WJ at a0;rw[a6]at a0;simp only[Zz,if_false]at a0;obtain⟨C,hC,Q,d9⟩:=a0;obtain⟨N,e1⟩:∃N,v1=.slice (some ⟨μ id,0,none⟩) a.length N:=by
  cases a1 with |own _ _ _ _ b2 g2 o N c0 hv hl f7=> ?_
  rw[R]at c0;cases c0;obtain⟨rfl,C2,T2,g4,hd⟩:=f7 rfl;rcases hd with⟨ho,-,-⟩|⟨-,-,h0⟩
  ·rw[Y4]at ho;subst ho;exact⟨N,rfl⟩
  ·omega
 subst e1;subst e2;subst e3;subst e4;subst e5;subst hf;by_cases d1:a=[]
 ·subst d1;have f0:ds=[]:=by simpa using U.length_eq
  subst f0;have b7:({b with ch:=([]:List (List PL)).map (·.map DL.p)}:Xz)=b:=by
   have :b.ch=[]:=by simpa using b3
   cases b;simp_all
  have d5:H.set id b=H:=by
   obtain⟨G,h2⟩:=Zb.1 hb;apply List.ext_getElem (by simp);intro i h3 h4;rw[List.getElem_set];split
   ·rename_i e;subst e;exact h2.symm
   ·rfl
  rw[b7,d5];refine(AnyF.pdqsortCmpFunc_none L (some ⟨μ id,0,none⟩) N lm (.func (.func g) #[] cv.toArray) w).mono fun e w' ⟨he,hw⟩=> ?_
  subst hw;exact⟨_,μ,he,⟨[],rfl,.nil⟩,hI,WD.refl ..⟩
 ·have d3:0<a.length:=List.length_pos_iff.2 d1
  haveI:Inhabited (Fin a.length):=⟨⟨0,d3⟩⟩
  have b6:b.ch.length=a.length:=by rw[b3];simp
  rw[b6,Z]at Q;have u:∀(i:Nat) (c:List PL),a[i]? =some c->c.length=k/\XF (Wt w (Live O μ (Xn H))) (W4 C k i) c:=by
   intro i c I;have f2:i<a.length:=(Zb.1 I).1;have G:=d9 i (c.map DL.p) (by rw[b3,ZA,I];rfl);rw[Z]at G;have S:c.length=k:=by simpa using G.1
   refine⟨S,XF.VS (by rw[RF Q f2,S]) fun j v d hv hd=> ?_⟩;have E:j<k:=by rw[<-S];exact(Zb.1 hd).1
   rw[RG E]at hv;obtain⟨v',d7,hr⟩:=G.2 j (.p d) (by rw[ZA,hd];rfl);rw[hv]at d7;cases d7;cases hr with |p _ _ U=>exact U
  have K:∀i:Fin a.length,a[i.val]? =some a[i.val]:=fun i=>Zf i.isLt
  have f5:∀i:Fin a.length,(W4 C k i).length=k:=fun i=>RF Q i.isLt
  have d8:∀i:Fin a.length,∀v∈W4 C k i,v.oneCell'=true:=by
   intro i v hv;obtain⟨j,E⟩:=ZC.1 hv;have ha:=(u i _ (K i)).2;have f4:j<a[i.val].length:=by rw[<-ha.length];exact(Zb.1 E).1
   obtain⟨x,hx,hr⟩:=ha.get j _ (Zf f4);rw[E]at hx;cases hx;exact hr.one
  let D:Array (Fin a.length):=Array.ofFn fun i=>i
  have B:D.size=a.length:=by simp[D]
  have c3:∀i (I:i<a.length),D[i]! =⟨i,I⟩:=by
   intro i I;rw[getElem!_pos D i (by rw[B];exact I)];simp[D]
  have hH:HoldsK (fun i:Fin a.length=>W4 C k i) k w (μ id) 0 D:=by
   intro j E;rw[size_flatK,B]at E;have hf:=aA Q D B E;obtain⟨q1,q2,q3⟩:=gl E;rw[c3 _ q1]at hf;rw[q3]at hf;have g6:j<C.size:=by omega
   refine⟨?_,?_⟩
   ·simp only[World.cell?,hC,Z8];simpa using hf.symm
   ·simp[World.frozen?,hC]
  have g7:∀q,Live O μ (Xn H) q->q<w.heap.size:=by
   rintro q (T|⟨i,g3,G,_,rfl⟩)
   ·exact hI.lt q T
   ·exact hI.lt_size G
  have V:Live O μ (Xn H) (μ id):=.inr ⟨id,b,R,c6,rfl⟩;have b9:∀(m:Nat) (s:Array (Fin a.length)) (os:Array Obj),S4 w (Live O μ (Xn H)) (sortWorldK (fun i:Fin a.length=>W4 C k i) k w (μ id) 0 m s os) (Live O μ (Xn H)):=by
   intro m s os;exact⟨size_sortWorldK_c _ _ _ _ _ _ _ _,fun q T hl=>UI _ _ _ _ _ _ _ _ T fun e=>hl (e▸V),fun q T=>.inl T⟩
  let cf:Fin a.length->Fin a.length->Int:=fun i j=>n a[i.val] a[j.val]
  have r:∀i:Fin a.length,a[i.val]∈a:=fun i=>Yz i.isLt
  have hO:SWO (ltOf cf):=by
   refine⟨fun x=> ?_,fun x y z G h2=> ?_,fun x y z G h2=> ?_⟩
   ·simp only[ltOf,cf,decide_eq_false_iff_not];exact f9 _ (r x)
   ·simp only[ltOf,cf,decide_eq_true_eq]at *;exact tr _ (r x) _ (r y) _ (r z) G h2
   ·simp only[ltOf,cf,decide_eq_false_iff_not]at *;exact g0 _ (r x) _ (r y) _ (r z) G h2
  have b8:∀(m:Nat) (s:Array (Fin a.length)) (os:Array Obj),S4 w (fun q=>q=μ id) (sortWorldK (fun i:Fin a.length=>W4 C k i) k w (μ id) 0 m s os) (fun q=>q=μ id):=
   fun m s os=>⟨size_sortWorldK_c _ _ _ _ _ _ _ _,fun q T hl=>UI _ _ _ _ _ _ _ _ T hl,fun q T=>.inl T⟩
  have M:S4 w (Live O μ (Xn H)) w (fun q=>q=μ id):=⟨Zh _,fun _ _ _=>rfl,fun q T=>.inl (by rw[T];exact V)⟩;have e8:CmpLays P g cv.toArray (fun i:Fin a.length=>W4 C k i) k cf (μ id) 0 D.size w:=by
   intro m os s g5 x y;have kp:=b8 m s os;refine pD (L:=fun q=>q=μ id) (c2 _ (r x) _ (r y)) (fun q T=>Z2 (by rw[T];exact hI.lt_size R) kp.size) ?_ ?_ ?_
   ·exact((u x _ (K x)).2).imp fun _ _ h=>(h.keeps M).keeps kp
   ·exact((u y _ (K y)).2).imp fun _ _ h=>(h.keeps M).keeps kp
   ·exact e9.imp fun _ _ h=>h.keeps kp
  have c1:μ id<w.heap.size:=hI.lt_size R;have J:=AnyQ.pdqsortCmpFunc_all L k aE zE (fun i:Fin a.length=>W4 C k i) cf g cv.toArray hO (μ id) 0 N D w eg e8 ⟨f5,d8,hH,c1⟩ (a.length+1) 0 a.length lm D w (by omega) rfl (SWK.start hH) (Zt _) (by rw[B];exact Zh _) (by rw[B];exact hn) f6 (Or.inl rfl);rw[B]at J;refine J.mono fun e w' ⟨he,f8⟩=> ?_
  clear J;obtain⟨A,Y⟩:=pdq_sorts (ltOf cf) hO D 0 a.length lm true true (Zt _) (by rw[B];exact Zh _) (Or.inl rfl);obtain⟨m,os,rfl⟩:=f8;generalize pdq (ltOf cf) D 0 a.length lm true true=s at A Y;obtain⟨d6,-,A⟩:=A;have F:s.size=a.length:=by rw[d6,B]
  have x1:s.extract 0 a.length=s:=Ri s F;have x2:D.extract 0 a.length=D:=Ri D B;rw[x1,x2]at A;have c4:D.toList.map (fun i=>a[i.val])=a:=by
   apply List.ext_getElem (by simp[B]);intro i G h2;simp[D]
  have f1:ds=s.toList.map fun i=>a[i.val]:=by
   have d2:(s.toList.map fun i=>a[i.val]).Perm a:=by
    have:=A.map fun i:Fin a.length=>a[i.val]
    rwa[c4]at this
   refine List.Perm.eq_of_pairwise (le:=fun x y=>¬n y x<0) (fun x y hx hy G h2=>g1 x (U.mem_iff.1 hx) y (d2.mem_iff.1 hy) h2 G) hs ?_ (U.trans d2.symm);rw[List.pairwise_map,List.pairwise_iff_getElem];intro i j I E f3;have:=Y i j (Zt _) f3 (by rw[<-F];simpa using E);rw[getElem!_pos s i (by simpa using I),getElem!_pos s j (by simpa using E)]at this;simpa[ltOf,cf]using this
  have c5:ds.length=a.length:=U.length_eq;have kp:=b9 m s os;have X:=OX (fun i:Fin a.length=>W4 C k i) k w (μ id) m s os hC;have a9:(putCells _root_.id 0 (flatK (fun i:Fin a.length=>W4 C k i) k s) C).size=C.size:=by simp[putCells]
  generalize hW:sortWorldK (fun i:Fin a.length=>W4 C k i) k w (μ id) 0 m s os=W at X kp;have b0:W.os=w.os/\W.tape=w.tape/\W.output=w.output:=by rw[<-hW];exact⟨rfl,rfl,rfl⟩
  have e6:∀q,q<w.heap.size->q≠μ id->W.heap[q]? =w.heap[q]? :=by
   intro q G h2;rw[<-hW];exact UI _ _ _ _ _ _ _ _ G h2
  obtain⟨hM,e0⟩:=SH (b':={b with ch:=ds.map (·.map DL.p)}) hI R a6 a6 c6 hC X kp.size e6 (.inl rfl) (Zh _) (fun _=>⟨rfl,rfl,a9⟩) b0.1 b0.2.1 b0.2.2;rw[gY H id _ c8];refine⟨_,_,he,⟨[],rfl,.nil⟩,e0 ?_,hM⟩;refine WJ.yJ (b:={b with ch:=ds.map (·.map DL.p)}) a6 (by rw[if_pos rfl];exact X) ?_ fun i c I=> ?_
  ·show(ds.map (·.map DL.p)).length*b.sz<=_;rw[a9,ZP,c5,Z];exact Q
  ·show c.length=b.sz/\∀(j:Nat) (d:DL),c[j]? =some d->∃v,(putCells _root_.id 0 (flatK (fun i:Fin a.length=>W4 C k i) k s) C)[i*b.sz+j]? =some v/\_;simp only[ZA,Option.map_eq_some_iff]at I;obtain⟨c',I,rfl⟩:=I;have c9:i<a.length:=by rw[<-c5];exact(Zb.1 I).1
   have c7:i<s.size:=by rw[F];exact c9
   have e7:c'=a[(s[i]!).val]:=by
    rw[f1,ZA,Array.getElem?_toList,Array.getElem?_eq_getElem c7]at I;have hg:=getElem!_pos s i c7;simp only[hg];simpa using I.symm
   obtain⟨S,d4⟩:=u (s[i]!).val c' (by rw[e7];exact K _);refine⟨by rw[Z];simpa using S,fun j d E=> ?_⟩;simp only[ZA,Option.map_eq_some_iff]at E;obtain⟨l,E,rfl⟩:=E;have b5:j<k:=by rw[<-S];exact(Zb.1 E).1
   obtain⟨v,hv,hr⟩:=d4.get j l E;rw[RG b5]at hv;have ht:i*k+j<a.length*k:=by
    have:=Zp k (show i+1<=a.length from c9);rw[ZG,ZZ]at this;omega
   have k0:0<k:=by omega
   have q1:(i*k+j) / k=i:=by rw[Y1,Nat.add_mul_div_right _ _ k0,YY b5,Z8]
   have q2:(i*k+j)%k=j:=by rw[Y1,Nat.add_mul_mod_self_right,Zg b5]
   have b4:=aA Q s F ht;simp only[q1,q2]at b4;rw[hv]at b4;refine⟨v,?_,XL.mono hM (XL.p _ _ hr)⟩;rw[Z];simp only[putCells,Array.getElem?_mapIdx,size_flatK,F];rw[Array.getElem?_eq_getElem (by omega),Z4,if_pos ⟨Zt _,by omega⟩];simpa using b4
theorem Bt {P:Program}{g:Ren}(L:SlLaysF0.n14 P g){f:Nat}(q:g.f 14=f)(d:Nat)(c:DV)(H:List Xz):
  CH P f [.one (.p .XC),.one (.p (.int .i64 (.ofNat 0))),.one (.p (.int .i64 (.ofNat 0))),.one (.p (.int .i64 (.ofNat d))),c] H (.XZ []) H:=by
 intro w O μ A n a;cases a with |cons h t=> ?_
 cases t with |cons i t=> ?_
 cases t with |cons j t=> ?_
 cases t with |cons k t=> ?_
 cases t with |cons z t=> ?_
 cases t;rename_i s u v x y;have e1:s=.slice none 0 0:=by cases h with |p _ _ b=>cases b;rfl
 have e2:u=.int .i64 (.ofNat 0):=by cases i with |p _ _ b=>cases b;rfl
 have l:v=.int .i64 (.ofNat 0):=by cases j with |p _ _ b=>cases b;rfl
 have m:x=.int .i64 (.ofNat d):=by cases k with |p _ _ b=>cases b;rfl
 subst e1;subst e2;subst l;subst m;subst q;refine(AnyF.pdqsortCmpFunc_none L none 0 d y w).mono fun e B ⟨o,r⟩=> ?_
 subst r;exact⟨_,μ,o,⟨[],rfl,.nil⟩,n,WD.refl ..⟩
end Go.Ev
