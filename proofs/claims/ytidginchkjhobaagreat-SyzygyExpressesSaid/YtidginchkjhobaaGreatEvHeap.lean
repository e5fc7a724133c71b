/- Operations that read the heap or make blocks. -/
import Derived.Test.YtidginchkjhobaaGreatEvOps
import Derived.Maps.AppendAt
import Derived.Deep.AppendSrc
namespace Go.Ev
section
variable {P:Program}{O:BS}{w:World}{μ:Nat->Nat}{h:HF}{n:Nat}
theorem Wx.cells {id}{b}(a:Wx w O μ h id b)(e:b.mp=false):∃(C:Array Value),w.heap[μ id]? =some (.cells C b.ty (0,0))/\b.ch.length*b.sz<=C.size/\
  ∀i c,b.ch[i]? =some c->c.length=b.sz/\∀j d,c[j]? =some d->∃v,C[i*b.sz+j]? =some v/\XH w O μ h v d:=by grind [Wx]
theorem Wx.Na {id}{b}(e:b.mp=false)(a:∃(C:Array Value),w.heap[μ id]? =some (.cells C b.ty (0,0))/\b.ch.length*b.sz<=C.size/\
  ∀(i:Nat) (c:Y'),b.ch[i]? =some c->c.length=b.sz/\∀(j:Nat) (d:DL),c[j]? =some d->∃v,C[i*b.sz+j]? =some v/\XH w O μ h v d):Wx w O μ h id b:=by grind [Wx]
theorem X1.Bt (a:X1 w O μ h){id}{b}(c:h id=some b):∃d,w.heap[μ id]? =some d:=by
 have:=a.RV id b c
 grind [Wx]
theorem X1.lt_size (a:X1 w O μ h){id}{b}(c:h id=some b):μ id<w.heap.size:=by
 obtain⟨d,e⟩:=a.Bt c
 grind
theorem Wx.mono {o}{f}{p}(m:WL O w μ h o f p){id}{b}(e:o.heap[f id]? =w.heap[μ id]?)(a:Wx w O μ h id b):Wx o O f p id b:=by
 unfold Wx at a⊢;cases s:b.mp
 ·rw[s]at a;simp only[ZC,if_false]at a⊢;obtain⟨C,k,E,q⟩:=a;refine⟨C,by rw[e];exact k,E,fun i c r=>⟨(q i c r).1,fun j d D=> ?_⟩⟩;obtain⟨v,n,F⟩:=(q i c r).2 j d D;exact⟨v,n,F.mono m⟩
 ·rw[s]at a;simp only[if_true]at a⊢;cases l:Nat.beq b.ty 2
  case true=>
   grind
  rw[l,if_neg (by simp)]at a;rw[if_neg (by simp)];obtain⟨t,g,k,n,B⟩:=a;refine⟨t,g,by rw[e];exact k,n,B.imp fun x c ⟨G,H,u,y,z,A⟩=>⟨G,H,u,y,z,A.imp fun _ _=>XH.mono m⟩⟩
theorem QZ {w'}(d:X1 w O μ h)(v:h n=none)(b)(p:w.heap.size<=w'.heap.size)(c:∀k,k<w.heap.size->w'.heap[k]? =w.heap[k]?)(m:w'.os=w.os)(q:w'.tape=w.tape)(o:w'.output=w.output):
  WL O w μ h w' (fun id=>if id=n then w.heap.size else μ id) (fun x=>if x=n then some b else h x)/\
  (Wx w' O (fun id=>if id=n then w.heap.size else μ id) (fun x=>if x=n then some b else h x) n b->X1 w' O (fun id=>if id=n then w.heap.size else μ id) (fun x=>if x=n then some b else h x)):=by
 have r:WL O w μ h w' (fun id=>if id=n then w.heap.size else μ id) (fun x=>if x=n then some b else h x):=by
  refine⟨m,q,o,⟨p,fun k f _=>c k f,fun k f=> ?_⟩,fun k f=>c k (d.lt k f),fun id x a=> ?_,fun id x a _=> ?_⟩
  ·rcases f with f|⟨id,RV,hid,hf,i⟩
   ·exact .inl (.inl f)
   ·by_cases e:id=n
    ·grind
    ·simp only[e,if_false]at hid i;exact .inl (.inr ⟨id,RV,hid,hf,i⟩)
  ·grind
  grind
 refine⟨r,fun u=>⟨fun id x a=> ?_,fun id j x t a g i=> ?_,fun id x a=> ?_,fun k f=> ?_⟩⟩
 ·by_cases e:id=n
  ·grind
  ·simp only[e,if_false]at a;exact(d.RV id x a).mono r (by simp only[e,if_false];exact c _ (d.lt_size a))
 ·by_cases e:id=n<;>by_cases l:j=n
  ·rw[e,l]
  ·simp only[l,if_false]at g;have:=d.lt_size g
   grind
  ·simp only[e,if_false]at a;have:=d.lt_size a
   grind
  ·simp only[e,l,if_false]at a g i;exact d.inj id j x t a g i
 ·by_cases e:id=n
  ·simp only[e,if_true];intro s;have:=d.lt _ s;omega
  ·simp only[e,if_false]at a⊢;exact d.Rl id x a
 ·have:=d.lt k f;omega
theorem iY (t:TypeId)(a)(b)(g:XE (XH w O μ h) a.toList b)(r:h n=none)(m:X1 w O μ h){res}
  (s:res=.ok (.value (.pointer (some ⟨w.heap.size,0,none⟩))) (w.alloc (.cells a t))):V5 O w μ h n res ⟨.one (.ptr n 0 0 0),[⟨false,0,b.length,[b],false,t⟩],[],[]⟩:=by
 obtain⟨l,e⟩:=QZ (w':=w.alloc (.cells a t)) (n:=n) m r ⟨false,0,b.length,[b],false,t⟩ (by simp) (fun k q=>RowKit.Below.heap_alloc _ _ _ q) rfl rfl rfl;refine⟨_,_,_,.inl s,XH.ptr n 0 0 0 _ _ _ (if_pos rfl) (Zf _) (fun _=>⟨by simp,by simp⟩),e ?_,l⟩;refine Wx.Na rfl ⟨a,?_,?_,fun i c f=> ?_⟩
 ·grind [heap_alloc_new]
 ·have:=g.length;grind
 ·cases i with
  |succ i=>simp at f
  |zero=>
   simp at f;subst f;refine⟨rfl,fun j d p=> ?_⟩;obtain⟨v,u,o⟩:=g.get j d p;exact⟨v,by simpa using u,o.mono l⟩
theorem S9 (t:TypeId)(a):(newRow t a).run P w=.ok ⟨w.heap.size,0,none⟩ (w.alloc (.cells a t)):=rfl
theorem Gt (t:TypeId)(x:Operand)(d:Operand->Value)(o)(j:o.op=.box t x)(b)(i:XF w O μ h (d x) b)(r)(a:cD t n [b]=some r)(g:h n=none)(f:X1 w O μ h):
  V5 O w μ h n ((execOp d o).run P w) r:=by
 simp only[cD]at a;cases c:b.cells with
 |none=>simp[c]at a
 |some e=>
 simp only[c,Zb]at a;subst a;refine iY t (d x).cells e (i.cells c) g f ?_
 grind [execOp,Ur,Instr.box,newVar,Sem.run_bind,S9,Result.andThen_ok,Sem.run_pure]
theorem An (t:TypeId)(z)(c:Operand->Value)(o)(s:o.op=.alloc t)(f:zeroOf P t=some z)(r)(b:QR t z n []=some r)(e:h n=none)(d:X1 w O μ h):
  V5 O w μ h n ((execOp c o).run P w) r:=by
 simp only[QR,Zb]at b;subst b;obtain⟨i,m,q,l,g,k,j,a⟩:=Td f;have:=iY (n:=n) t m.cells (z.map .p) (a w O μ h) e d (res:=(execOp c o).run P w)
  (by simp_all [execOp,Instr.alloc,newVar,S9])
 simpa using this
theorem OB:∀a g q,(∀j d,a[j]? =some d->∃v,w.cell? ⟨g,q+j,none⟩=some v/\XH w O μ h v d)->
  ∃b:List Value,XE (XH w O μ h) b a/\∀j v,b[j]? =some v->w.cell? ⟨g,q+j,none⟩=some v
 |[],_,_,_=>⟨[],.nil,fun j v e=>by simp at e⟩
 |c::a,g,q,H=>by
  obtain⟨v,e,k⟩:=H 0 c rfl;obtain⟨b,f,m⟩:=OB a g (q+1) fun j d i=>by
   have:=H (j+1) d (by simpa using i)
   grind
  refine⟨v::b,.cons k f,fun j u l=> ?_⟩
  grind
theorem Au {t:TypeId}{a}(b:fE P t=some a):(isAgg t).run P w=.ok a w:=by
 unfold fE at b;unfold isAgg;split at b<;>simp only[Zb,reduceCtorEq]at b<;>subst b<;>rename_i c
 ·simp[underlying,c]
 ·simp[underlying,c]
 simp_all [underlying]
theorem eH (t:TypeId)(i:TypeInfo)(b)(s:fE P t=some b)(u:P.info? t=some i)(g q)(m)
  (H:∀(j:Nat) (d:DL),m[j]? =some d->∃v,w.cell? ⟨g,q+j,none⟩=some v/\XH w O μ h v d) (o) (k:Sr b i.size m=some o):
  ∃v,(Instr.loadAt t (.pointer (some ⟨g,q,none⟩))).run P w=.ok v w/\XF w O μ h v o:=by
 have p:=Au (w:=w) s;obtain⟨n,a,e⟩:=OB m g q H;unfold Sr at k;cases b with
 |true=>
  simp only[cond_true]at k;obtain⟨l,rfl⟩:=X4 k;have l:=Vp l;have y:(Go.sizeOf t).run P w=.ok i.size w:=by simp[Go.sizeOf,typeInfo,u]
  have C:=a.length;have f:=run_loadCells_list (P:=P) w ⟨g,q,none⟩ (n.take i.size) fun j v B=>by
   grind [UX]
  rw[Z4,Nat.min_eq_left (by omega)]at f;refine⟨.agg (n.take i.size).toArray,?_,⟨_,rfl,a.take i.size⟩⟩
  simp_all [Instr.loadAt,Instr.sureAddr,loadVar]
 |false=>
  simp only[cond_false]at k;cases a with
  |nil=>simp at k
  |@cons x c n m r z=>
  simp only[Zb]at k;subst k;have A:=e 0 x rfl;refine⟨x,?_,r⟩
  simp_all [Instr.loadAt,Instr.sureAddr,loadVar]
theorem NA (e:X1 w O μ h){id i}{b}{c}(f:h id=some b)(k:b.mp=false)(m:b.ch[i]? =some c)(a):
  ∀j d,(c.drop a)[j]? =some d->∃v,w.cell? ⟨μ id,i*b.sz+a+j,none⟩=some v/\XH w O μ h v d:=by
 intro j d n;obtain⟨C,l,_,g⟩:=(e.RV id b f).cells k
 grind [World.cell?]
theorem qV {id XW i}{c}(a:QY h id XW i=some c):∃b,h id=some b/\b.XW=XW/\b.mp=false/\b.ch[i]? =some c:=by
 unfold QY at a
 grind [Zl]
theorem CY (t:TypeId)(i:TypeInfo)(a)(x:Operand)(R:Operand->Value)(o)(Z:o.op=.load t x)(L:fE P t=some a)(N:P.info? t=some i)(K)(Q:XF w O μ h (R x) K)(r)
  (f:Of a i.size h [K]=some r) (S:X1 w O μ h):V5 O w μ h n ((execOp R o).run P w) r:=by
 unfold Of at f;split at f
 ·rename_i F k;simp only[ZG,and_true]at k;subst k;cases u:Sr a i.size (F.map .p)with
  |none=>simp[u]at f
  |some G=>
  simp only[u,Zb]at f;subst f;obtain⟨g,q,e,D,Y,z,V⟩:=Q.gY;obtain⟨v,B,A⟩:=eH (P:=P) (w:=w) (O:=O) (μ:=μ) (h:=h) t i a L N g q (F.map .p) (fun j d E=>by
   rw[ZR]at E;cases m:F[j]? with
   |none=>simp[m]at E
   |some l=>
    simp only[m,Ym,Zb]at E;subst E;exact⟨D j,z j l m,.p _ _ (V j l m)⟩) G u
  simp_all [Wb,execOp]
 ·rename_i id XW J s k;simp only[ZG,and_true]at k;subst k;cases z:QY h id XW J with
  |none=>simp[z]at f
  |some c=>
  simp only[z]at f;obtain⟨T,f⟩:=Wq f;cases u:Sr a i.size (c.drop s)with
  |none=>simp[u]at f
  |some G=>
  simp only[u,Zb]at f;subst f;obtain⟨b,M,C,U,H⟩:=qV z;obtain⟨X,g,q,e,y,W,I⟩:=Q.Ou;rw[M]at y;cases y;obtain⟨rfl,rfl⟩:=I C.symm;obtain⟨v,B,A⟩:=eH (P:=P) (w:=w) (O:=O) (μ:=μ) (h:=h) t i a L N (μ id) (J*b.sz+s) (c.drop s) (NA S M U H s) G u
  simp_all [SF,execOp]
 ·simp at f
end
theorem Vi {d:Type}{a:Nat}:∀(L:List (List d)),(∀c∈L,c.length=a)->L.flatten.length=L.length*a
 |[],_=>by simp
 |c::L,hL=>by
  rw[List.flatten_cons,Zn,Vi L (fun x b=>hL x (by simp[b])),hL c (by simp),Zj,ZX];omega
theorem UF {b:Type}{a:Nat}:∀(L:List (List b)),(∀c∈L,c.length=a)->∀(i:Nat) (c:List b) (j:Nat) (d:b),L[i]? =some c->c[j]? =some d->L.flatten[i*a+j]? =some d
 |[],_,i,c,j,d,hi,_=>by simp at hi
 |x::L,hL,i,c,j,d,hi,hj=>by
  have f:=hL x (by simp);cases i with
  |zero=>
   grind
  |succ i=>
   rw[List.flatten_cons,ZZ (by grind),f];rw[show(i+1)*a+j-a=i*a+j by rw[ZX];omega];exact UF L (fun c e=>hL c (by simp[e])) i c j d (by simpa using hi) hj
theorem gl {d:Type}{a:Nat}:∀(L:List (List d)) (i:Nat) (b:List d),(∀c∈L,c.length=a)->b.length=a->i<L.length->
  (L.set i b).flatten=L.flatten.take (i*a)++b++L.flatten.drop (i*a+a)
 |[],i,b,_,_,hi=>by simp at hi
 |x::L,i,b,hL,hd,hi=>by
  have f:=hL x (by simp);cases i with
  |zero=>
   grind
  |succ i=>
   simp only[YK,List.flatten_cons];rw[gl L i b (fun c e=>hL c (by simp[e])) hd (by simpa using hi)];have e1:(i+1)*a=x.length+i*a:=by grind
   rw[e1,List.take_length_add_append];rw[show x.length+i*a+a=x.length+(i*a+a)by omega,List.drop_length_add_append];simp[Zp]
section
variable {P:Program}{O:BS}{w:World}{μ:Nat->Nat}{h:HF}{n:Nat}
theorem P7 {w'}(e q f b)(C)(ch)(K)(m:ch.length=b)(r:∀c∈ch,c.length=q)(A:b<=f)(y:f*q=C.size)(s:f<=maxLen)
  (E:∀(i:Nat) (c:Y') (j:Nat) (d:DL),ch[i]? =some c->c[j]? =some d->∃v,C[i*q+j]? =some v/\XH w O μ h v d)
  (H:h n=none) (D:X1 w O μ h) (a:w'.heap[w.heap.size]? =some (.cells C e (0,0))) (g:∀k,k<w.heap.size->w'.heap[k]? =w.heap[k]?) (t:w'.os=w.os) (x:w'.tape=w.tape) (u:w'.output=w.output) {p}
  (I:p=.ok (.value (.slice (some ⟨w.heap.size,0,none⟩) b f)) w'):V5 O w μ h n p ⟨.one (.own n 0 0 b),[⟨false,0,q,ch,false,e⟩],[],K⟩:=by
 have o:w.heap.size<=w'.heap.size:=Nat.le_of_lt (Yd.1 a).1;obtain⟨B,l⟩:=QZ (w':=w') (n:=n) D H ⟨false,0,q,ch,false,e⟩ o g t x u;refine⟨_,_,_,.inl I,XH.own n 0 0 b _ _ _ _ (if_pos rfl) (Zf _) A (fun _=>⟨by simp,C,e,by simpa using a,.inl ⟨by simp,by simpa using y,s⟩⟩),l ?_,B⟩;refine Wx.Na rfl ⟨C,by simpa using a,?_,fun i c z=>⟨r c (Zh z),fun j d G=> ?_⟩⟩
 ·simp only[m];rw[<-y];exact Zm _ A
 ·obtain⟨v,J,F⟩:=E i c j d z G;exact⟨v,J,F.mono B⟩
theorem Eg (f g:Nat->Value):Array.map f (Array.range 0)=Array.map g (Array.range 0):=by grind
theorem eG {m:Value}{z:N'}(a:XE (XH w O μ h) m.cells.toList (z.map .p))(q:0<z.length)(b:Nat):
  XE (XH w O μ h) (madeCells m.cells (b*z.length)).toList (List.replicate b (z.map DL.p)).flatten:=by
 have g:=a.length;simp only[Array.length_toList,ZP]at g;have e:∀c∈List.replicate b (z.map DL.p),c.length=z.length:=by grind
 refine XE.Uq ?_ fun k x y t f=> ?_
 ·simp_all [madeCells]
 ·have r:k<b*z.length:=by
   have:=(Zg.1 f).1
   simp_all [Vi]
  have n:k / z.length<b:=by simp_all [Nat.div_lt_iff_lt_mul]
  have o:k%z.length<z.length:=ZN _ q;obtain⟨d,i⟩:∃d,(z.map DL.p)[k%z.length]? =some d:=⟨(z.map DL.p)[k%z.length]'(by simpa using o),by grind⟩;have j:=UF _ e (k / z.length) (z.map DL.p) (k%z.length) d (by simp[n]) i;rw[show k / z.length*z.length+k%z.length=k from Nat.div_add_mod' k z.length]at j;rw[j]at f;cases f;obtain⟨v,s,l⟩:=a.get _ _ i
  grind [madeCells]
theorem Nx {C:Array Value}{ch:K'}{b:Nat}(a:∀c∈ch,c.length=b)(e:XE (XH w O μ h) C.toList ch.flatten):
  ∀(i:Nat) (c:Y') (j:Nat) (d:DL),ch[i]? =some c->c[j]? =some d->∃v,C[i*b+j]? =some v/\XH w O μ h v d:=by
 intro i c j d f g;obtain⟨v,l,k⟩:=e.get _ _ (UF ch a i c j d f g)
 grind
theorem me (t e:TypeId)(z:N')(i:TypeInfo)(x y:Operand)(K:Operand->Value)(o:Oper)(Y:o.op=.makeSlice t x y)(Z:P.underlying t=some (.slice e))(hz:zeroOf P e=some z)(V:P.info? e=some i)(H:0<z.length)
  (L M:DV) (hx:XF w O μ h (K x) L) (hy:XF w O μ h (K y) M) (r:Vk) (C:UD e z i.bytes n [L,M]=some r) (X:h n=none) (S:X1 w O μ h):V5 O w μ h n ((execOp K o).run P w) r:=by
 unfold UD at C;split at C
 ·rename_i k1 l k2 c s;simp only[ZG,and_true]at s;obtain⟨rfl,rfl⟩:=s;obtain⟨B,rfl⟩:=X4 C;simp only[Zs]at B;have R:=Vp B.1.1;have h2:=Vp B.1.2;have h3:=Vp B.2;obtain⟨N,J,u,a1,A,a0,I,g⟩:=Td hz;rw[V]at u;cases u;have v:(Instr.makeSlice t (.int k1 (Int.ofNat l)) (.int k2 (Int.ofNat c))).run P w=.ok (.slice (some ⟨w.heap.size,0,none⟩) l c) (w.alloc (.cells (madeCells J.cells (c*i.size)) e)):=by
   have T:(i.bytes:Int)*(c:Int)<=281474976710656:=by
    grind [lim]
   have w1:IntKind.i64.wrap (l:Int)=l:=IntWalk.i64_in _ (by omega);have w2:IntKind.i64.wrap (c:Int)=c:=IntWalk.i64_in _ (by omega);have F:∀w',(Go.sizeOf e).run P w'=.ok i.size w':=by simp_all [Go.sizeOf,typeInfo]
   have G:∀w',(typeInfo e).run P w'=.ok i w':=by simp_all [typeInfo]
   have D:∀(b:Nat) w',(askRoom b).run P w'=.ok () w':=by simp_all
   have f:((decide ((c:Int)<0)||decide ((i.bytes:Int)*c>2^48))||decide ((l:Int)<0)||decide ((l:Int)>c))=false:=by
    simp;omega
   simp only[Instr.makeSlice,Sem.run_bind,run_underlying Z,Result.andThen_ok,asInt,asIntOf,Sem.run_pure,G,Yx,w1,w2];rw[if_neg (by rw[f];simp)];simp only[Sem.run_bind,D,F,Result.andThen_ok,Int.toNat_natCast];by_cases h0:c*i.size=0
   ·rw[if_pos h0]
    grind [Sem.run_bind,Sem.run_pure,Result.andThen_ok,S9,madeCells]
   ·rw[if_neg h0];simp only[Sem.run_bind,I,Sem.run_pure,Result.andThen_ok,S9];rfl
  have q:=eG (g w O μ h) H c;have a:∀m,∀x∈List.replicate m (z.map DL.p),x.length=z.length:=by grind
  refine P7 (w':=w.alloc (.cells (madeCells J.cells (c*i.size)) e)) e z.length c l (madeCells J.cells (c*i.size)) _ _ (by simp) (a l) R (by simp[madeCells,A]) (by unfold maxLen;omega) ?_ X S (heap_alloc_new w _) (fun k W=>RowKit.Below.heap_alloc _ _ _ W) rfl rfl rfl (by simp only[execOp,Y];exact Ur (by rw[hx.Vh,hy.Vh];exact v));intro N Q j d U E;rw[<-A];refine Nx (a c) q N Q j d ?_ E
  grind
 ·simp at C
theorem kN {e:Nat}:∀(a:P') (h:X') (ch b:K'),(∀c∈ch,c.length=e)->OG e ch a h=some b->
  OF ch.flatten (a.map fun i=>(i*e,e)) h=some b.flatten/\(∀c∈b,c.length=e)/\b.length=ch.length
 |[],[],ch,b,hch,hf=>by simp only[OG,Zb]at hf;subst hf;exact⟨rfl,hch,rfl⟩
 |[],_::_,_,_,_,hf=>by simp[OG]at hf
 |_::_,[],_,_,_,hf=>by simp[OG]at hf
 |i::a,d::h,ch,b,hch,hf=>by
  simp only[OG]at hf;cases k:d.cells with
  |none=>simp[k]at hf
  |some m=>
  simp only[k]at hf;obtain⟨j,l⟩:=Wq hf;rw[Zs]at j;have t:=Zl j.1;have s:=QG j.2;have g:∀c∈ch.set i m,c.length=e:=by
   grind
  obtain⟨r,n,o⟩:=kN a h _ b g l;refine⟨?_,n,by rw[o];simp⟩;simp only[Zt,OF,k];have f:=Vi ch hch;have q:i*e+e<=ch.flatten.length:=by
   rw[f];have:=Zm e (show i+1<=ch.length by omega);grind
  have p:(Nat.beq m.length e&&Nat.ble (i*e+e) ch.flatten.length)=true:=by
   grind [Nat.ble_eq]
  grind [gl]
theorem iZ (t e:TypeId)(z:N')(b:Nat)(a:Array (Nat×Operand))(C:Operand->Value)(o:Oper)(ho:o.op=.buildSlice t b a)(S:P.underlying t=some (.slice e))(T:zeroOf P e=some z)(B:0<z.length)
  (R:b*z.length<=16777216) (D:X') (m:XE (fun y d=>XF w O μ h (C y.2) d) a.toList D) (r:Vk) (E:Uf e z b (a.toList.map (·.1)) n D=some r) (Q:h n=none) (M:X1 w O μ h):
  V5 O w μ h n ((execOp C o).run P w) r:=by
 unfold Uf at E;cases v:OG z.length (List.replicate b (z.map .p)) (a.toList.map (·.1)) D with
 |none=>simp[v]at E
 |some ch=>
 simp only[v,Zb]at E;subst E;obtain⟨i,Y,Z,X,U,W,V,s⟩:=Td T;have A:∀x∈List.replicate b (z.map DL.p),x.length=z.length:=by grind
 obtain⟨f,u,F⟩:=kN _ _ _ _ A v;have l:XE (fun(p:Nat×Value) d=>XF w O μ h p.2 d) (a.map fun(x:Nat×Operand)=>(x.1,C x.2)).toList D:=by
  rw[Array.toList_map];clear v f;generalize a.toList=pl at m;induction m with
  |nil=>exact .nil
  |cons q _ K=>exact .cons q K
 have g:XE (fun(p:Nat×Value) q=>(fun x=>some (x*z.length,z.length)) p.1=some q) (a.map fun(x:Nat×Operand)=>(x.1,C x.2)).toList ((a.toList.map (·.1)).map fun i=>(i*z.length,z.length)):=by
  rw[Array.toList_map];clear v f m l;generalize a.toList=pt;induction pt with
  |nil=>exact .nil
  |cons q _ K=>exact .cons rfl K
 obtain⟨c,H,j⟩:=fc (fun x=>some (x*z.length,z.length)) _ _ _ (madeCells Y.cells (b*z.length)) _ _ g l (eG (s w O μ h) B b) f;have J:∀w',(Go.sizeOf e).run P w'=.ok z.length w':=by simp_all [Go.sizeOf,typeInfo]
 have G:c.size=b*z.length:=by
  have:=j.length
  grind [Vi]
 have L:(Instr.buildSlice t b (a.map fun(x:Nat×Operand)=>(x.1,C x.2))).run P w=.ok (.slice (some ⟨w.heap.size,0,none⟩) b b) (w.alloc (.cells c e)):=by
  simp only[Instr.buildSlice,Sem.run_bind,run_underlying S,Result.andThen_ok,J];rw[if_neg (by omega)];by_cases h0:b*z.length=0
  ·rw[if_pos h0]
   grind [madeCells,Sem.run_bind,Sem.run_pure,Result.andThen_ok,S9]
  simp_all [madeCells,S9]
 have I:b<=maxLen:=by
  have :b*1<=b*z.length:=ZE _ B;unfold maxLen;omega
 exact P7 (w':=w.alloc (.cells c e)) e z.length b b c ch [] (by rw[F];simp) u (Zf _) G.symm I (Nx u j) Q M (heap_alloc_new w _) (fun k N=>RowKit.Below.heap_alloc _ _ _ N) rfl rfl rfl
  (by grind [execOp,Ur])
end
section
variable {P:Program}{O:BS}{w:World}{μ:Nat->Nat}{h:HF}{n:Nat}
theorem Rx {w'}(d:X1 w O μ h){id}{b b'}{C C'}{g'}(o:h id=some b)(L:b.mp=false)(F:b'.mp=false)(q:b.fz=false)
  (K:w.heap[μ id]? =some (.cells C b.ty (0,0))) (D:w'.heap[g']? =some (.cells C' b.ty (0,0))) (n:w.heap.size<=w'.heap.size) (f:∀k,k<w.heap.size->k≠μ id->w'.heap[k]? =w.heap[k]?)
  (g:g'=μ id\/w.heap.size<=g') (z:b.XW<=b'.XW) (u:b'.XW=b.XW->g'=μ id/\b'.sz=b.sz/\C'.size=C.size) (s:w'.os=w.os) (v:w'.tape=w.tape) (t:w'.output=w.output):
  WL O w μ h w' (fun x=>if x=id then g' else μ x) (fun x=>if x=id then some b' else h x)/\
  (Wx w' O (fun x=>if x=id then g' else μ x) (fun x=>if x=id then some b' else h x) id b'->X1 w' O (fun x=>if x=id then g' else μ x) (fun x=>if x=id then some b' else h x)):=by
 have l:Live O μ h (μ id):=.inr ⟨id,b,o,q,rfl⟩;have r:∀a x,h a=some x->a≠id->μ a≠μ id:=fun a x c H e=>H (d.inj a id x b c o e)
 have m:WL O w μ h w' (fun x=>if x=id then g' else μ x) (fun x=>if x=id then some b' else h x):=by
  refine⟨s,v,t,⟨n,fun k i E=>f k i fun e=>E (e▸l),fun k i=> ?_⟩,fun k i=>f k (d.lt k i) fun e=>d.Rl id b o (e▸i),fun a x c=> ?_,fun a x c G=> ?_⟩
  ·rcases i with i|⟨a,RV,hid,hf,j⟩
   ·exact .inl (.inl i)
   ·by_cases e:a=id
    ·grind
    ·simp only[e,if_false]at hid j;exact .inl (.inr ⟨a,RV,hid,hf,j⟩)
  ·grind
  grind
 refine⟨m,fun J=>⟨fun a x c=> ?_,fun A B x y c p j=> ?_,fun a x c=> ?_,fun k i=>ZO (d.lt k i) n⟩⟩
 ·by_cases e:a=id
  ·grind
  ·simp only[e,if_false]at c;exact(d.RV a x c).mono m (by simp only[e,if_false];exact f _ (d.lt_size c) (r a x c e))
 ·by_cases e1:A=id<;>by_cases e2:B=id
  ·rw[e1,e2]
  ·simp only[e2,if_false]at p;simp only[e1,e2,if_true,if_false]at j;rcases g with g|g
   ·grind
   ·have:=d.lt_size p;omega
  ·simp only[e1,if_false]at c;simp only[e1,e2,if_true,if_false]at j;rcases g with g|g
   ·grind
   ·have:=d.lt_size c;omega
  ·simp only[e1,e2,if_false]at c p j;exact d.inj A B x y c p j
 ·by_cases e:a=id
  ·subst e;simp only[if_true];rcases g with g|g
   ·rw[g];exact d.Rl a b o
   ·intro I;have:=d.lt _ I;omega
  ·simp only[e,if_false]at c⊢;exact d.Rl a x c
theorem bT (g)(C)(T:TypeId)(D)(a:w.heap[g]? =some (.cells C T (0,0))):
  (w.setRow g D).heap[g]? =some (.cells D T (0,0))/\(∀k,k≠g->(w.setRow g D).heap[k]? =w.heap[k]?)/\(w.setRow g D).heap.size=w.heap.size:=by grind [World.setRow]
theorem iS (L a:List Value)(o:Nat)(b:o+a.length<=L.length)(k:Nat):
  (L.take o++a++L.drop (o+a.length))[k]? =if k<o then L[k]? else if k<o+a.length then a[k-o]? else L[k]? :=by grind
theorem Aj (t:TypeId)(i:TypeInfo)(Q:Nat)(x y:Operand)(F:Operand->Value)(o:Oper)(ho:o.op=.store t x y)(hi:P.info? t=some i)
  (dx dy:DV) (hx:XF w O μ h (F x) dx) (hy:XF w O μ h (F y) dy) (r:Vk) (m:QN Q i.size h [dx,dy]=some r) (hI:X1 w O μ h):V5 O w μ h n ((execOp F o).run P w) r:=by
 unfold QN at m;split at m
 ·rename_i id XW l a d2 V;simp only[ZG,and_true]at V;obtain⟨rfl,rfl⟩:=V;cases S:h id with
  |none=>simp[S]at m
  |some b=>
  simp only[S]at m;cases hc:dy.cells with
  |none=>simp[hc]at m
  |some cs=>
  simp only[hc,P4]at m;obtain⟨I,N⟩:=Wq m;simp only[Zs]at I;obtain⟨⟨⟨⟨B,u⟩,M⟩,K⟩,_⟩:=I;have B:=Zl B;have K:=Zl K;have u:b.mp=false:=by simpa using u
  have M:b.fz=false:=by simpa using M
  cases s:b.ch[l]? with
  |none=>simp[s]at N
  |some c=>
  simp only[s]at N;obtain⟨Y,rfl⟩:=X4 N;have Y:=Vp Y;obtain⟨b2,g,q,e,T,_,a4⟩:=hx.Ou;rw[S]at T;cases T;obtain⟨rfl,rfl⟩:=a4 B.symm;obtain⟨C,hC,a7,H⟩:=(hI.RV id b S).cells u;have a6:=(H l c s).1;have A:=hy.cells hc;have a0:=A.length;simp only[Array.length_toList]at a0;have U:l<b.ch.length:=(Zg.1 s).1;have p:l*b.sz+a+(F y).cells.toList.length<=C.size:=by
   have h1:(l+1)*b.sz<=b.ch.length*b.sz:=Zm _ U
   grind
  have L:=run_storeCells_at P (μ id) (l*b.sz+a) b.ty (F y).cells.toList 0 C w hC (by simpa using p) (fun v B=>by
   obtain⟨k,J⟩:=Zv.1 B;have a2:k<cs.length:=by grind
   obtain⟨v',Z,a3⟩:=A.get k cs[k] (Zd a2);rw[J]at Z;cases Z;exact a3.one)
  simp only[ZU]at L;generalize hD:(List.take (l*b.sz+a) C.toList++(F y).cells.toList++List.drop (l*b.sz+a+(F y).cells.toList.length) C.toList).toArray=D at L;have R:D.size=C.size:=by grind
  have z:∀k,D[k]? =if k<l*b.sz+a then C[k]? else if k<l*b.sz+a+(F y).cells.toList.length then(F y).cells.toList[k-(l*b.sz+a)]? else C[k]? :=by
   intro k;rw[<-hD];have:=iS C.toList (F y).cells.toList (l*b.sz+a) (by simpa using p) k;simpa using this
  obtain⟨W,a1,a8⟩:=bT (w:=w) (μ id) C b.ty D hC;obtain⟨f,X⟩:=Rx (w':=w.setRow (μ id) D) (g':=μ id) (b':={b with ch:=b.ch.set l (c.take a++cs++c.drop (a+i.size))}) hI S u u M hC W (by omega)
   (fun k _ J=>a1 k J) (.inl rfl) (Zf _) (fun _=>⟨rfl,rfl,R⟩) rfl rfl rfl
  refine⟨undef,w.setRow (μ id) D,_,.inr ⟨?_,rfl⟩,⟨[],rfl,.nil⟩,X ?_,f⟩
  ·simp_all [execOp,Go.sizeOf,typeInfo,Instr.storeAt,Instr.sureAddr,storeVar]
  ·refine Wx.Na u ⟨D,by simpa using W,?_,fun k ck J=> ?_⟩
   ·grind
   ·by_cases ek:k=l
    ·subst ek;rw[List.getElem?_set_self U]at J;cases J;refine⟨by simp;omega,fun j d E=> ?_⟩;have a5:(c.take a).length=a:=by simp;omega
     show∃v,D[k*b.sz+j]? =some v/\_;rw[z];rw[Zp]at E;by_cases h1:j<a
     ·rw[Z9 (by omega),List.getElem?_take,if_pos h1]at E;obtain⟨v,B,m⟩:=(H k c s).2 j d E;rw[if_pos (by omega)];exact⟨v,B,m.mono f⟩
     ·rw[ZZ (by omega),a5]at E;rw[if_neg (by omega)];by_cases h2:j<a+i.size
      ·rw[Z9 (by omega)]at E;obtain⟨v,B,m⟩:=A.get (j-a) d E;rw[if_pos (by grind)];exact⟨v,by grind,m.mono f⟩
      ·rw[ZZ (by omega),List.getElem?_drop]at E;obtain⟨v,B,m⟩:=(H k c s).2 j d (by rw[<-E];congr 1;omega);rw[if_neg (by grind)];exact⟨v,B,m.mono f⟩
    ·rw[ZY (fun e=>ek e.symm)]at J;obtain⟨hl,G⟩:=H k ck J;refine⟨hl,fun j d E=> ?_⟩;have a9:j<b.sz:=by grind
     obtain⟨v,B,m⟩:=G j d E;refine⟨v,?_,m.mono f⟩;show D[k*b.sz+j]? =some v;rw[z];rcases Nat.lt_or_gt_of_ne ek with hlt|hgt
     ·have:=Zm b.sz (show k+1<=l by omega)
      grind
     ·have:=Zm b.sz (show l+1<=k by omega)
      grind
 ·simp at m
end
section
variable {P:Program}{O:BS}{w:World}{μ:Nat->Nat}{h:HF}{n:Nat}
theorem Tr {w'}(d:X1 w O μ h)(e:w.heap.size<=w'.heap.size)(a:∀k,k<w.heap.size->w'.heap[k]? =w.heap[k]?)(g:w'.os=w.os)(j:w'.tape=w.tape)(i:w'.output=w.output):
  WL O w μ h w' μ h/\X1 w' O μ h:=by
 have l:WL O w μ h w' μ h:=⟨g,j,i,⟨e,fun k c _=>a k c,fun k c=>.inl c⟩,fun k c=>a k (d.lt k c),
  fun id b f=>⟨b,f,Zf _,rfl,fun _=>⟨rfl,rfl,fun C T m=>⟨C,by grind,rfl⟩⟩⟩,fun _ _ _ _=>rfl⟩
 exact⟨l,⟨fun id b f=>(d.RV id b f).mono l (a _ (d.lt_size f)),d.inj,d.Rl,fun k c=>ZO (d.lt k c) e⟩⟩
theorem ng (hI:X1 w O μ h){v:Value}{y:DL}{m:K'}{X:P'}{a:Nat}(W:XF w O μ h v (.one y))(n:WH h y=some (m,X))(s:∀c∈m,c.length=a):
  (v=.slice none 0 0/\m=[])\/∃(Z:Addr) (c:Nat) (z:List Value),v=.slice (some Z) m.length c/\XE (XH w O μ h) z m.flatten/\∀(j:Nat) (u:Value),z[j]? =some u->w.cell? (Z.add j)=some u:=by
 unfold WH at n;split at n
 ·simp only[Zb,Zq]at n;obtain⟨rfl,rfl⟩:=n;exact .inl ⟨W.cM,rfl⟩
 ·rename_i r;simp only[Zb,Zq]at n;obtain⟨rfl,rfl⟩:=n;obtain⟨b,f,Y,o,sp,e,k,G,hs,Q,hl,A,hp⟩:=W.cO;right;rcases k with rfl|rfl
  ·exact⟨⟨b,f,sp⟩,o,[],by simpa using e,.nil,fun j u hu=>by simp at hu⟩
  refine⟨⟨b,f,none⟩,o,?_⟩;have P:r≠[]->Y=a:=by
   intro D;cases r with
   |nil=>exact absurd rfl D
   |cons c cs=>rw[<-hs 0 c rfl];simp_all
  obtain⟨xs,ha,hx⟩:=OB (w:=w) (O:=O) (μ:=μ) (h:=h) (r.map (·.map DL.p)).flatten b f (by
   intro j d L;have D:r≠[]:=by grind
   have t:∀c∈r.map (·.map DL.p),c.length=a:=s;have B:=(Zg.1 L).1;rw[Vi _ t,ZP]at B;have k:0<a:=by
    grind
   have N:j / a<r.length:=by simp_all [Nat.div_lt_iff_lt_mul]
   have hr:j%a<a:=ZN _ k;have H:r[j / a].length=a:=(hs _ _ (Zd N)).trans (P D);have J:=UF _ t (j / a) (r[j / a].map DL.p) (j%a) (.p (r[j / a][j%a]'(by omega))) (by simp[N]) (by simp[H,hr]);rw[show j / a*a+j%a=j from Nat.div_add_mod' j a,L]at J;cases J;refine⟨Q (j / a) (j%a),?_,.p _ _ (hp _ _ _ _ (Zd N) (Zd (by omega)))⟩;have:=A (j / a) _ (j%a) _ (Zd N) (Zd (by omega))
   grind [Nat.div_add_mod'])
  grind [UX]
 ·rename_i id XW f l;cases R:h id with
  |none=>simp[R]at n
  |some b=>
  simp only[R]at n;obtain⟨i,I⟩:=X4 n;simp only[Zq]at I;obtain⟨rfl,rfl⟩:=I;simp only[Zs]at i;have hv:=Zl i.1.1;have hm:b.mp=false:=by simpa using i.1.2
  have a2:=Vp i.2;obtain⟨b2,g,q,o,e,F,_,G,V⟩:=W.Rv;rw[R]at F;cases F;obtain⟨rfl,C,T,hC,hd⟩:=V hv.symm;obtain⟨C2,E,a1,S⟩:=(hI.RV id b R).cells hm;rw[hC]at E;cases E;have M:((b.ch.drop f).take l).length=l:=by simp;omega
  right;refine⟨⟨μ id,q,none⟩,o,?_⟩;obtain⟨xs,ha,hx⟩:=OB (w:=w) (O:=O) (μ:=μ) (h:=h) ((b.ch.drop f).take l).flatten (μ id) q (by
   intro j d L;have B:=(Zg.1 L).1;rw[Vi _ s,M]at B;have k:0<a:=by
    grind
   have N:j / a<l:=by simp_all [Nat.div_lt_iff_lt_mul]
   have hr:j%a<a:=ZN _ k;have K:f+j / a<b.ch.length:=by omega
   have x:((b.ch.drop f).take l)[j / a]? =some b.ch[f+j / a]:=by
    grind
   have H:(b.ch[f+j / a]).length=a:=s _ (Zh x);have a0:b.sz=a:=by grind
   have J:=UF _ s (j / a) _ (j%a) (b.ch[f+j / a][j%a]'(by omega)) x (Zd (by omega));rw[show j / a*a+j%a=j from Nat.div_add_mod' j a,L]at J;cases J;obtain⟨v,a3,U⟩:=(S _ _ (Zd K)).2 (j%a) _ (Zd (by omega));refine⟨v,?_,U⟩;rcases hd with⟨ho,_,_⟩|⟨h0,_,_⟩
   ·simp only[World.cell?,hC];simp only[Option.isSome_none,ZC,if_false]
    grind [Nat.div_add_mod']
   grind)
  grind [UX]
 ·simp at n
theorem zP {d:Nat}{a:K'}(b:a.all (fun c=>Nat.beq c.length d)=true):∀c∈a,c.length=d:=by grind [Zl]
theorem dC {a}{b}(c:XE (XH w O μ h) a b):∀u∈a,u.oneCell'=true:=by
 induction c with
 |nil=>simp
 |cons e _ f=>intro u d;rcases Zk.1 d with rfl|h1;exact e.one;exact f u h1
theorem P6 (S:X1 w O μ h){id:Nat}{b:Xx}{C:Array Value}(T:h id=some b)(q:b.mp=false)(I:b.fz=false)(E:w.heap[μ id]? =some (.cells C b.ty (0,0)))(p:Nat)(e:K')(t:∀c∈e,c.length=b.sz)
  (L:p+e.length<=b.ch.length) (a:List Value) (g:XE (XH w O μ h) a e.flatten):
  (storeCells ⟨μ id,p*b.sz,none⟩ a).run P w=.ok () (w.setRow (μ id) (C.toList.take (p*b.sz)++a++C.toList.drop (p*b.sz+a.length)).toArray)/\
  WL O w μ h (w.setRow (μ id) (C.toList.take (p*b.sz)++a++C.toList.drop (p*b.sz+a.length)).toArray) (fun x=>if x=id then μ id else μ x) (fun x=>if x=id then some {b with ch:=b.ch.take p++e++b.ch.drop (p+e.length)}else h x)/\
  X1 (w.setRow (μ id) (C.toList.take (p*b.sz)++a++C.toList.drop (p*b.sz+a.length)).toArray) O (fun x=>if x=id then μ id else μ x) (fun x=>if x=id then some {b with ch:=b.ch.take p++e++b.ch.drop (p+e.length)}else h x)/\
  ∃D:Array Value,(w.setRow (μ id) (C.toList.take (p*b.sz)++a++C.toList.drop (p*b.sz+a.length)).toArray).heap[μ id]? =some (.cells D b.ty (0,0))/\D.size=C.size:=by
 obtain⟨C2,y,W,F⟩:=(S.RV id b T).cells q;rw[E]at y;cases y;have H:=Vi e t;have M:a.length=e.length*b.sz:=by rw[g.length,H]
 have m:p*b.sz+a.length<=C.size:=by
  have:=Zm b.sz L
  grind
 have l:=run_storeCells_at P (μ id) (p*b.sz) b.ty a 0 C w E (by simpa using m) (dC g);simp only[ZU]at l;generalize V:(List.take (p*b.sz) C.toList++a++List.drop (p*b.sz+a.length) C.toList).toArray=D at l;have r:D.size=C.size:=by rw[<-V];simp;omega
 have i:∀k,D[k]? =if k<p*b.sz then C[k]? else if k<p*b.sz+a.length then a[k-p*b.sz]? else C[k]? :=by
  grind [iS]
 obtain⟨s,G,X⟩:=bT (w:=w) (μ id) C b.ty D E;obtain⟨f,A⟩:=Rx (w':=w.setRow (μ id) D) (g':=μ id) (b':={b with ch:=b.ch.take p++e++b.ch.drop (p+e.length)}) S T q q I E s (by omega)
  (fun k _ o=>G k o) (.inl rfl) (Zf _) (fun _=>⟨rfl,rfl,r⟩) rfl rfl rfl
 refine⟨l,f,A ?_,D,s,r⟩;have Q:(b.ch.take p).length=p:=by simp;omega
 refine Wx.Na q ⟨D,by simpa using s,?_,fun k u o=> ?_⟩
 ·grind
 ·simp only[Zp]at o;have Z:b.ch[k]? =some u->(k<p\/p+e.length<=k)->u.length=b.sz/\∀(j:Nat) (d:DL),u[j]? =some d->∃v,D[k*b.sz+j]? =some v/\XH (w.setRow (μ id) D) O (fun x=>if x=id then μ id else μ x) (fun x=>if x=id then some {b with ch:=b.ch.take p++e++b.ch.drop (p+e.length)}else h x) v d:=by
   intro o B;obtain⟨Y,n⟩:=F k u o;refine⟨Y,fun j d J=> ?_⟩;have K:j<b.sz:=by grind
   obtain⟨v,U,N⟩:=n j d J;refine⟨v,?_,N.mono f⟩;rw[i];rcases B with R|R
   ·have:=Zm b.sz (show k+1<=p by omega)
    grind
   grind
  by_cases R:k<p
  ·grind
  ·rw[ZZ (by omega),Q]at o;by_cases h2:k<p+e.length
   ·rw[Z9 (by omega)]at o;have z:=t u (Zh o);refine⟨z,fun j d J=> ?_⟩;have K:j<b.sz:=by grind
    obtain⟨v,U,N⟩:=g.get _ _ (UF _ t _ u j d o J);refine⟨v,?_,N.mono f⟩;show D[k*b.sz+j]? =some v;have e1:k*b.sz=p*b.sz+(k-p)*b.sz:=by rw[<-ZX];congr 1;omega
    have e2:=Zm b.sz (show(k-p)+1<=e.length by omega);rw[ZX]at e2;rw[i,if_neg (by omega),if_pos (by omega),<-U];congr 1;omega
   grind [ZZ]
theorem xC (s:Operand)(t:TypeId)(b:Operand->Value)(o)(c:o.op=.call ⟨.builtin .clear,#[s],#[t]⟩){v}{a}
  (d:(Builtin.clear_ #[t] o.type #[b s]).run P w=.ok v a):(execOp b o).run P w=.ok (.value v) a:=by simp_all [execOp,resolve,invoke,builtin]
theorem Am (t e:TypeId)(z:N')(A:Nat)(s:Operand)(M:Operand->Value)(o:Oper)(Z:o.op=.call ⟨.builtin .clear,#[s],#[t]⟩)(ht:P.underlying t=some (.slice e))(hz:zeroOf P e=some z)(L:0<z.length)
  (N:DV) (hs:XF w O μ h (M s) N) (r:Vk) (y:QQ A z h [N]=some r) (Q:X1 w O μ h):V5 O w μ h n ((execOp M o).run P w) r:=by
 unfold QQ at y;split at y
 ·rename_i id XW H x E;simp only[ZG,and_true]at E;subst E;cases B:h id with
  |none=>simp[B]at y
  |some b=>
  simp only[B]at y;obtain⟨a,rfl⟩:=X4 y;simp only[Zs]at a;obtain⟨⟨⟨⟨⟨K,d⟩,k⟩,f⟩,l⟩,_⟩:=a;have K:=Zl K;have f:=Zl f;have l:=Vp l;have d:b.mp=false:=by simpa using d
  have k:b.fz=false:=by simpa using k
  obtain⟨i,zv,hi,a3,a0,a2,a1,v⟩:=Td hz;obtain⟨b2,g,q,U,V,D,_,R,J⟩:=hs.Rv;rw[B]at D;cases D;obtain⟨rfl,C,T,hC,hd⟩:=J K.symm;obtain⟨C2,W,X,Y⟩:=(Q.RV id b B).cells d;have I:w.heap[μ id]? =some (.cells C b.ty (0,0)):=by grind
  have u:=eG (w:=w) (O:=O) (μ:=μ) (h:=h) (v w O μ h) L x;obtain⟨G,S,j,_⟩:=P6 (P:=P) Q B d k I H (List.replicate x (z.map .p)) (fun c hc=>by grind) (by simpa using l) _ u;simp only[YL]at S j;refine⟨.tuple #[],_,_,.inl (xC s t M o Z ?_),⟨[],rfl,.nil⟩,j,S⟩;rw[V];cases x with
  |zero=>
   have F:(madeCells zv.cells (0*z.length)).toList=[]:=by simp[madeCells]
   rw[F]at G⊢;have e0:(storeCells ⟨μ id,H*b.sz,none⟩ []).run P w=.ok () w:=by simp[storeCells]
   simp_all [Builtin.clear_,run_underlying]
  |succ m=>
   simp_all [Builtin.zeroCells,madeCells,Builtin.clear_,run_underlying]
 ·simp at y
theorem BM (s x:Operand)(t u:TypeId)(a:Operand->Value)(o)(c:o.op=.call ⟨.builtin .copy,#[s,x],#[t,u]⟩){v}{b}
  (d:(Builtin.copy_ #[t,u] o.type #[a s,a x]).run P w=.ok v b):(execOp a o).run P w=.ok (.value v) b:=by simp_all [execOp,resolve,invoke,builtin]
theorem cX {e:Type}{a:Nat}:∀(L:List (List e)),(∀c∈L,c.length=a)->∀m,(L.take m).flatten=L.flatten.take (m*a)
 |[],_,m=>by simp
 |c::L,hL,0=>by simp
 |c::L,hL,m+1=>by
  have b:=hL c (by simp);rw[List.take_succ_cons,List.flatten_cons,List.flatten_cons,cX L (fun x d=>hL x (by simp[d])) m,ZX,Yf,Nat.add_comm,<-b,List.take_length_add_append]
theorem C0 (t e:TypeId)(i:TypeInfo)(H:Nat)(s x:Operand)(G:Operand->Value)(o:Oper)(ho:o.op=.call ⟨.builtin .copy,#[s,x],#[t,t]⟩)(ht:P.underlying t=some (.slice e))(hi:P.info? e=some i)
  (ds dx:DV) (hs:XF w O μ h (G s) ds) (hx:XF w O μ h (G x) dx) (r:Vk) (D:Oh H i.size h [ds,dx]=some r) (X:X1 w O μ h):V5 O w μ h n ((execOp G o).run P w) r:=by
 unfold Oh at D;split at D
 ·rename_i id XW S d y L;simp only[ZG,and_true]at L;obtain⟨rfl,rfl⟩:=L;cases J:h id with
  |none=>simp[J]at D
  |some b=>
  simp only[J]at D;cases V:WH h y with
  |none=>simp[V]at D
  |some q=>
  obtain⟨a,a8⟩:=q;simp only[V,Nw]at D;obtain⟨l,rfl⟩:=X4 D;simp only[Zs]at l;obtain⟨⟨⟨⟨⟨⟨hv,z⟩,E⟩,A⟩,M⟩,I⟩,_⟩:=l;have hv:=Zl hv;have A:=Zl A;have M:=Vp M;have z:b.mp=false:=by simpa using z
  have E:b.fz=false:=by simpa using E
  have F:=zP I;have R:=ng X hx V F;have Z:=Vi a F;obtain⟨b2,g,q,a4,es,K,_,a2,a1⟩:=hs.Rv;rw[J]at K;cases K;obtain⟨rfl,C,T,hC,hd⟩:=a1 hv.symm;obtain⟨C2,a5,a6,a7⟩:=(X.RV id b J).cells z;have W:w.heap[μ id]? =some (.cells C b.ty (0,0)):=by grind
  have Q:(a.take d).length=Nat.min d a.length:=Z4;have a3:Nat.min d a.length<=d:=Nat.min_le_left ..;obtain⟨f,k,N,v⟩:∃f,XE (XH w O μ h) f (a.take d).flatten/\(Builtin.lenOf (G x)).run P w=.ok a.length w/\(Builtin.firstCells i.size (Nat.min a.length d) (G x)).run P w=.ok f.toArray w:=by
   rcases R with⟨U,rfl⟩|⟨ad,c,f,U,k,Y⟩
   ·exact⟨[],by rw[List.take_nil];exact .nil,by rw[U];rfl,by grind [run_firstCells_none]⟩
   ·refine⟨f.take (d*i.size),by rw[cX a F];exact k.take _,by rw[U];rfl,?_⟩;rw[U];refine run_firstCells_some w i.size _ ad a.length c (f.take (d*i.size)) ?_ fun j u hj=> ?_
    ·rw[Z4,k.length,Z];rcases Nat.le_total d a.length with h1|h1
     ·grind [Zm]
     simp_all
    grind
  obtain⟨m,hm,B,_⟩:=P6 (P:=P) X J z E W S (a.take d) (fun c V=>by grind) (by rw[Q];omega) f k;rw[Q]at hm B;refine⟨goInt (Nat.min a.length d:Nat),_,_,.inl (BM s x t t G o ho ?_),?_,B,hm⟩
  ·rw[es];by_cases h0:Nat.min d a.length=0
   ·have a0:f=[]:=by
     have:=k.length
     grind
    subst a0;have e0:(storeCells ⟨μ id,S*b.sz,none⟩ []).run P w=.ok () w:=by simp[storeCells]
    rw[e0]at m;simp only[Result.ok.injEq,true_and]at m;rw[<-m];simp[Builtin.copy_,run_underlying ht,sizeOf,typeInfo,hi,N,v,storeCells]
   simp_all [Builtin.copy_,run_underlying,sizeOf,typeInfo]
  ·have e1:Nat.min a.length d=Nat.min d a.length:=Nat.min_comm ..;rw[e1];exact XH.p _ _ (.int ..)
 ·simp at D
theorem RO (s x:Operand)(t:TypeId)(a:Operand->Value)(o)(c:o.op=.call ⟨.builtin .append,#[s,x],#[t,t]⟩){v}{b}
  (d:(Builtin.append_ #[t,t] o.type #[a s,a x]).run P w=.ok v b):(execOp a o).run P w=.ok (.value v) b:=by simp_all [execOp,resolve,invoke,builtin]
theorem vU (t e:TypeId)(z:N')(i:TypeInfo)(c2:Nat)(s x:Operand)(ρ:Operand->Value)(o:Oper)(ho:o.op=.call ⟨.builtin .append,#[s,x],#[t,t]⟩)(ht:P.underlying t=some (.slice e))(hz:zeroOf P e=some z)(hi:P.info? e=some i)(d5:0<z.length)
  (ds dx:DV) (hs:XF w O μ h (ρ s) ds) (hx:XF w O μ h (ρ x) dx) (r:Vk) (hr:Vs c2 e z.length i.bytes h n [ds,dx]=some r) (hn:r.al≠[]->h n=none) (hI:X1 w O μ h):V5 O w μ h n ((execOp ρ o).run P w) r:=by
 cases ds with
 |agg _=>simp[Vs]at hr
 |Wd _=>simp[Vs]at hr
 |one ls=>
 cases dx with
 |agg _=>simp[Vs]at hr
 |Wd _=>simp[Vs]at hr
 |one lx=>
 simp only[Vs]at hr;cases hc:WH h lx with
 |none=>simp[hc]at hr
 |some q=>
 obtain⟨m,d8⟩:=q;simp only[hc]at hr;obtain⟨c5,J⟩:=Wq hr;clear hr;have Y:=zP c5;obtain⟨i',zv,d2,d7,S,d6,f5,e6⟩:=Td hz;rw[hi]at d2;cases d2;have a7:=ng hI hx hc Y;have b6:=Vi m Y;split at J
 ·
  have es:=hs.cM;unfold W9 at J;obtain⟨hb,Z⟩:=Wq J;simp only[Zs]at hb;have c6:=Vp hb.1;have W:=Vp hb.2;unfold lim at c6;rcases a7 with⟨ex,rfl⟩|⟨ad,c,f,ex,a,G⟩
  ·simp only[Zb]at Z;subst Z;refine SF hI (RO s x t ρ o ho (by rw[es,ex];exact run_append_owned_none w 0 t o.type e i z.length ht hi _ 0 [] (World.ownsRow_nil w 0 e z.length))) (XH.p _ _ .Xp)
  ·have a6:f.length=m.length*z.length:=by rw[a.length,b6]
   obtain⟨v',w',K,U,A,b5,c7⟩:=run_append_own_at (P:=P) w 0 t o.type e i zv z.length i.bytes ht hi d7 S.symm rfl (by rw[d6,S]) d5 (.slice none 0 0) 0 [] (World.ownsRow_nil w 0 e z.length) ad m.length c f a6 G (dC a)
    (by unfold maxLen;omega) (by simpa using c6) (Zw _)
   have X:=RO (P:=P) (w:=w) s x t ρ o ho (by rw[es,ex];exact K);simp only[Yb,ZB]at U;cases m with
   |nil=>
    simp only[Zb]at Z;subst Z;have b9:v'=.slice none 0 0:=b5.2 ⟨rfl,rfl⟩;subst b9;obtain⟨hm,N⟩:=Tr (w':=w') hI A.size (fun k hk=>A.block k hk (by simp[Value.ownBlock])) A.os A.tape A.output;exact⟨_,w',μ,.inl X,XH.p _ _ .Xp,N,hm⟩
   |cons c0 c3=>
    simp only[Zb]at Z;subst Z;rcases U.2 with⟨_,h0⟩|⟨g,M,B,rfl,_,hg,a5,a2,b1,Sp⟩
    ·simp at h0
    ·have d1:g=w.heap.size:=by
      grind [Value.ownBlock]
     subst d1;refine P7 (w':=w') e z.length M (c0::c3).length B (c0::c3) d8 rfl Y a5 b1.symm a2 ?_ (hn (by simp)) hI hg (fun k hk=>A.block k hk (by simp[Value.ownBlock])) A.os A.tape A.output X;intro k ck j d hk hj;have hf:=UF _ Y k ck j d hk hj;obtain⟨v,hv,V⟩:=a.get _ _ hf
     grind
 ·
  rename_i id XW l;cases hb:h id with
  |none=>simp[hb]at J
  |some b=>
  simp only[hb]at J;cases d4:Nat.beq b.ch.length l with
  |false=>
   rw[d4,cond_false,RQ]at J;obtain⟨H,rfl⟩:=X4 J;simp only[Zs]at H;obtain⟨⟨⟨⟨⟨⟨hv,I⟩,Q⟩,R⟩,u⟩,F⟩,_⟩:=H;have hv:=Zl hv;have R:=Vp R;have u:=Zl u;have I:b.mp=false:=by simpa using I
   have Q:b.fz=false:=by simpa using Q
   obtain⟨b2,g,q,M,es,W,_,a1,b8⟩:=hs.Rv;rw[hb]at W;cases W;obtain⟨rfl,C,T,hC,hd⟩:=b8 hv.symm;obtain⟨C2,a0,b0,d0⟩:=(hI.RV id b hb).cells I;have d9:w.heap[μ id]? =some (.cells C b.ty (0,0)):=by grind
   obtain⟨hq,y,L⟩:=hd.resolve_right (fun h0=>by omega);simp only[Nat.zero_mul,Yb]at hq y;subst hq;have c9:l+m.length<=M:=by
    rw[hC]at a0;cases a0;rw[<-y]at b0;have:=Nat.le_of_mul_le_mul_right b0 (by omega:0<b.sz);omega
   obtain⟨f,a,a8⟩:∃f,XE (XH w O μ h) f m.flatten/\Src P i.size t (ρ x) m.length f w:=by
    rcases a7 with⟨ex,rfl⟩|⟨ad,c,f,ex,a,G⟩
    ·exact⟨[],.nil,by grind [Src.ofNil]⟩
    ·refine⟨f,a,?_⟩;rw[ex];exact Src.ofSlice w ht ad m.length c f (by rw[a.length,b6,S]) G (dC a)
   obtain⟨K,hm,N,D,hD,e9⟩:=P6 (P:=P) hI hb I Q d9 l m (fun c hc=>by rw[Y c hc,u]) R f a;refine⟨.slice (some ⟨μ id,0,none⟩) (l+m.length) M,_,_,.inl (RO s x t ρ o ho ?_),?_,N,hm⟩
   ·rw[es];rw[u,S]at K;rw[u,S];simp[Builtin.append_,run_underlying ht,sizeOf,typeInfo,hi,a8.len,c9,a8.cells,Addr.add_lit,K]
   ·refine XH.own id XW 0 (l+m.length) _ _ _ _ (if_pos rfl) (by simp only[];omega) c9 fun _=>⟨by simp,D,b.ty,by simpa using hD,.inl ⟨by simp,?_,L⟩⟩
    grind
  |true=>
  rw[d4,cond_true,TE]at J;obtain⟨H,rfl⟩:=X4 J;simp only[Zs]at H;obtain⟨⟨⟨⟨⟨⟨⟨⟨hv,I⟩,Q⟩,a4⟩,u⟩,F⟩,_⟩,a9⟩,c4⟩:=H;have hv:=Zl hv;have a4:=Zl a4;have u:=Zl u;have F:=Zl F;have I:b.mp=false:=by simpa using I
  have Q:b.fz=false:=by simpa using Q
  have a9:=Vp a9;have c4:=Vp c4;unfold lim at a9;obtain⟨b2,g,q,M,es,W,_,a1,b8⟩:=hs.Rv;rw[hb]at W;cases W;obtain⟨rfl,C,T,hC,hd⟩:=b8 hv.symm;obtain⟨C2,a0,b0,d0⟩:=(hI.RV id b hb).cells I;rw[hC]at a0;cases a0;obtain⟨hq,y,L⟩:=hd.resolve_right (fun h0=>by omega);simp only[Nat.zero_mul,Yb]at hq y;subst hq;have e7:∀c∈b.ch,c.length=z.length:=by
   grind [Zv]
  rw[u]at y b0;have U:w.ownsRow 0 e z.length (.slice (some ⟨μ id,0,none⟩) l M) l (C.toList.take (l*z.length)):=by
   refine⟨?_,.inr ⟨μ id,M,C,rfl,Zw _,by rw[hC,F],a1,L,y.symm,rfl⟩⟩
   grind
  have b4:∀(v':Value) (w':World) (g' E:Nat) (B:Array Value) (f:List Value),(execOp ρ o).run P w=.ok (.value v') w'->v'=.slice (some ⟨g',0,none⟩) (l+m.length) E->w'.heap[g']? =some (.cells B e (0,0))->
    l+m.length<=E->E<=maxLen->B.size=E*z.length->B.toList.take ((l+m.length)*z.length)=C.toList.take (l*z.length)++f->XE (XH w O μ h) f m.flatten->
    w.heap.size<=w'.heap.size->(∀k,k<w.heap.size->k≠μ id->w'.heap[k]? =w.heap[k]?)->(g'=μ id\/w.heap.size<=g')->w'.os=w.os->w'.tape=w.tape->w'.output=w.output->
    V5 O w μ h n ((execOp ρ o).run P w) ⟨.one (.own id (XW+1) 0 (l+m.length)),[],[(id,{b with XW:=XW+1,ch:=b.ch++m})],id::d8⟩:=by
   intro v' w' g' E B f X b9 b3 a5 a2 b1 Sp a e3 d3 e0 e1 e4 e2;obtain⟨hm,N⟩:=Rx (w':=w') (g':=g') (C':=B) (b':={b with XW:=XW+1,ch:=b.ch++m}) hI hb I I Q (by rw[hC,F]:w.heap[μ id]? =some (.cells C b.ty (0,0))) (by rw[b3,F]) e3 d3 e0 (by simp only[];omega) (fun e=>by simp only[]at e;omega) e1 e4 e2;refine⟨v',w',_,.inl X,?_,N ?_,hm⟩
   ·subst b9;refine XH.own id (XW+1) 0 (l+m.length) _ _ _ _ (if_pos rfl) (Zf _) a5 fun _=>⟨by simp,B,e,by simpa using b3,.inl ⟨by simp,?_,a2⟩⟩
    grind
   ·refine Wx.Na I ⟨B,by grind,?_,fun k ck hk=> ?_⟩
    ·simp_all [Zm]
    ·have c8:ck.length=z.length:=by
      grind
     refine⟨by rw[c8,<-u],fun j d hj=> ?_⟩;have f0:j<z.length:=by grind
     have f2:k<l+m.length:=by grind
     have e8:k*z.length+j<(l+m.length)*z.length:=by
      have:=Zm z.length (show k+1<=l+m.length by omega)
      grind
     have a3:∀v,(C.toList.take (l*z.length)++f)[k*z.length+j]? =some v->B[k*z.length+j]? =some v:=by
      grind
     have e5:(C.toList.take (l*z.length)).length=l*z.length:=by
      grind
     show∃v,B[k*b.sz+j]? =some v/\_;rw[show k*b.sz+j=k*z.length+j by rw[u]];by_cases f1:k<l
     ·rw[Z9 (by omega)]at hk;obtain⟨v,c1,V⟩:=(d0 k ck hk).2 j d hj;rw[u]at c1;have f4:k*z.length+j<l*z.length:=by
       have:=Zm z.length (show k+1<=l by omega)
       grind
      refine⟨v,a3 v ?_,V.mono hm⟩
      grind
     ·rw[ZZ (by omega)]at hk;have hf:=UF _ Y _ ck j d hk hj;obtain⟨v,c1,V⟩:=a.get _ _ hf;refine⟨v,a3 v ?_,V.mono hm⟩;have d1:l*z.length<=k*z.length:=Zm _ (by omega);rw[ZZ (by omega),e5,<-c1,a4]
      grind [Nat.sub_mul]
  rcases a7 with⟨ex,rfl⟩|⟨ad,c,f,ex,a,G⟩
  ·refine b4 _ w (μ id) M C [] (RO s x t ρ o ho (by grind [run_append_owned_none])) rfl (by rw[hC,F]) (by simpa using a1) L y.symm (by simp) .nil (Zf _) (fun _ _ _=>rfl) (.inl rfl) rfl rfl rfl
  ·have a6:f.length=m.length*z.length:=by rw[a.length,b6]
   obtain⟨v',w',K,b7,A,b5,c7⟩:=run_append_own_at (P:=P) w 0 t o.type e i zv z.length i.bytes ht hi d7 S.symm rfl (by rw[d6,S]) d5 _ l _ U ad m.length c f a6 G (dC a)
    (by unfold maxLen;omega) a9 (Zw _)
   have X:=RO (P:=P) (w:=w) s x t ρ o ho (by rw[es,ex];exact K);rcases b7.2 with⟨h1,_⟩|⟨g',E,B,rfl,_,b3,a5,a2,b1,Sp⟩
   ·grind
   ·refine b4 _ w' g' E B f X rfl b3 a5 a2 b1 Sp a A.size (fun k hk f3=>A.block k hk (by grind [Value.ownBlock])) ?_ A.os A.tape A.output
    grind [Value.ownBlock]
 ·simp at J
end
