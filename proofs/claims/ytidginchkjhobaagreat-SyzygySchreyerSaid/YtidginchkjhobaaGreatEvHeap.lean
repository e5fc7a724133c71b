/- Operations that read the heap or make blocks. -/
import Derived.Test.YtidginchkjhobaaGreatEvOps
import Derived.Maps.AppendAt
import Derived.Deep.AppendSrc
namespace Go.Ev
section
variable {P:Program}{O:BS}{w:World}{μ:Nat->Nat}{h:HF}{n:Nat}
theorem Wr.cells {id:Nat}{b:Xx}(a:Wr w O μ h id b)(e:b.mp=false):∃(C:Array Value),w.heap[μ id]? =some (.cells C b.ty (0,0))/\b.ch.length*b.sz<=C.size/\
  ∀(i:Nat) (c:Y'),b.ch[i]? =some c->c.length=b.sz/\∀(j:Nat) (d:DL),c[j]? =some d->∃v,C[i*b.sz+j]? =some v/\XE w O μ h v d:=by
 unfold Wr at a;rw[e]at a;simpa using a
theorem Wr.OI {id:Nat}{b:Xx}(e:b.mp=false)(a:∃(C:Array Value),w.heap[μ id]? =some (.cells C b.ty (0,0))/\b.ch.length*b.sz<=C.size/\
  ∀(i:Nat) (c:Y'),b.ch[i]? =some c->c.length=b.sz/\∀(j:Nat) (d:DL),c[j]? =some d->∃v,C[i*b.sz+j]? =some v/\XE w O μ h v d):Wr w O μ h id b:=by
 unfold Wr;rw[e];simpa using a
theorem X3.zG (c:X3 w O μ h){id:Nat}{b:Xx}(d:h id=some b):∃f,w.heap[μ id]? =some f:=by
 have:=c.RH id b d;unfold Wr at this;split at this
 ·split at this
  ·obtain⟨o,e,_⟩:=this;exact⟨_,e⟩
  ·obtain⟨g,a,e,_⟩:=this;exact⟨_,e⟩
 ·obtain⟨C,e,_⟩:=this;exact⟨_,e⟩
theorem X3.lt_size (a:X3 w O μ h){id:Nat}{b:Xx}(c:h id=some b):μ id<w.heap.size:=by
 obtain⟨d,e⟩:=a.zG c;exact(Ya.1 e).1
theorem Wr.mono {p:World}{f:Nat->Nat}{q:HF}(m:Wy O w μ h p f q){id:Nat}{b:Xx}(e:p.heap[f id]? =w.heap[μ id]?)(a:Wr w O μ h id b):Wr p O f q id b:=by
 unfold Wr at a⊢;cases t:b.mp
 ·rw[t]at a;simp only[Zy,if_false]at a⊢;obtain⟨C,l,G,r⟩:=a;refine⟨C,by rw[e];exact l,G,fun i c s=>⟨(r i c s).1,fun j d F=> ?_⟩⟩;obtain⟨v,n,I⟩:=(r i c s).2 j d F;exact⟨v,n,I.mono m⟩
 ·rw[t]at a;simp only[if_true]at a⊢;cases g:Nat.beq b.ty 2
  case true=>
   rw[g,if_pos rfl]at a;rw[if_pos rfl];obtain⟨o,H,E⟩:=a;exact⟨o,by rw[e];exact H,E⟩
  rw[g,if_neg (by simp)]at a;rw[if_neg (by simp)];obtain⟨u,k,l,n,D⟩:=a;refine⟨u,k,by rw[e];exact l,n,D.imp fun x c ⟨J,K,y,z,A,B⟩=>⟨J,K,y,z,A,B.imp fun _ _=>XE.mono m⟩⟩
theorem QM {w':World}(d:X3 w O μ h)(s:h n=none)(b:Xx)(p:w.heap.size<=w'.heap.size)(c:∀k,k<w.heap.size->w'.heap[k]? =w.heap[k]?)(m:w'.os=w.os)(q:w'.tape=w.tape)(o:w'.output=w.output):
  Wy O w μ h w' (fun id=>if id=n then w.heap.size else μ id) (fun x=>if x=n then some b else h x)/\
  (Wr w' O (fun id=>if id=n then w.heap.size else μ id) (fun x=>if x=n then some b else h x) n b->X3 w' O (fun id=>if id=n then w.heap.size else μ id) (fun x=>if x=n then some b else h x)):=by
 have r:Wy O w μ h w' (fun id=>if id=n then w.heap.size else μ id) (fun x=>if x=n then some b else h x):=by
  refine⟨m,q,o,⟨p,fun k f _=>c k f,fun k f=> ?_⟩,fun k f=>c k (d.lt k f),fun id x a=> ?_,fun id x a _=> ?_⟩
  ·rcases f with f|⟨id,RH,hid,hf,i⟩
   ·exact .inl (.inl f)
   ·by_cases e:id=n
    ·subst e;simp at i;right;omega
    ·simp only[e,if_false]at hid i;exact .inl (.inr ⟨id,RH,hid,hf,i⟩)
  ·have e:id≠n:=fun e=>by rw[e,s]at a;cases a
   refine⟨x,by simp[e,a],Ze _,rfl,fun _=>⟨by simp[e],rfl,fun C T t=>⟨C,?_,rfl⟩⟩⟩;rw[c _ (d.lt_size a)];exact t
  ·have e:id≠n:=fun e=>by rw[e,s]at a;cases a
   simp[e]
 refine⟨r,fun u=>⟨fun id x a=> ?_,fun id l x y a g i=> ?_,fun id x a=> ?_,fun k f=> ?_⟩⟩
 ·by_cases e:id=n
  ·subst e;simp at a;subst a;exact u
  ·simp only[e,if_false]at a;exact(d.RH id x a).mono r (by simp only[e,if_false];exact c _ (d.lt_size a))
 ·by_cases e:id=n<;>by_cases j:l=n
  ·rw[e,j]
  ·simp only[j,if_false]at g;have:=d.lt_size g;simp only[e,j,if_true,if_false]at i;omega
  ·simp only[e,if_false]at a;have:=d.lt_size a;simp only[e,j,if_true,if_false]at i;omega
  ·simp only[e,j,if_false]at a g i;exact d.inj id l x y a g i
 ·by_cases e:id=n
  ·simp only[e,if_true];intro v;have:=d.lt _ v;omega
  ·simp only[e,if_false]at a⊢;exact d.S7 id x a
 ·have:=d.lt k f;omega
theorem gQ (t:TypeId)(a:Array Value)(b:Y')(g:XB (XE w O μ h) a.toList b)(r:h n=none)(m:X3 w O μ h){res:Result Next}
  (s:res=.ok (.value (.pointer (some ⟨w.heap.size,0,none⟩))) (w.alloc (.cells a t))):V0 O w μ h n res ⟨.one (.ptr n 0 0 0),[⟨false,0,b.length,[b],false,t⟩],[],[]⟩:=by
 obtain⟨l,e⟩:=QM (w':=w.alloc (.cells a t)) (n:=n) m r ⟨false,0,b.length,[b],false,t⟩ (by simp) (fun k q=>RowKit.Below.heap_alloc _ _ _ q) rfl rfl rfl;refine⟨_,_,_,.inl s,XE.ptr n 0 0 0 _ _ _ (if_pos rfl) (Ze _) (fun _=>⟨by simp,by simp⟩),e ?_,l⟩;refine Wr.OI rfl ⟨a,?_,?_,fun i c f=> ?_⟩
 ·simp only[if_true];exact heap_alloc_new w _
 ·have:=g.length;simp at this;simp;omega
 ·cases i with
  |succ i=>simp at f
  |zero=>
   simp at f;subst f;refine⟨rfl,fun j d p=> ?_⟩;obtain⟨v,u,o⟩:=g.get j d p;exact⟨v,by simpa using u,o.mono l⟩
theorem SU (t:TypeId)(a:Array Value):(newRow t a).run P w=.ok ⟨w.heap.size,0,none⟩ (w.alloc (.cells a t)):=rfl
theorem Ei (t:TypeId)(x:Operand)(d:Operand->Value)(o:Oper)(i:o.op=.box t x)(b:DV)(j:XA w O μ h (d x) b)(r:Va)(a:bH t n [b]=some r)(g:h n=none)(f:X3 w O μ h):
  V0 O w μ h n ((execOp d o).run P w) r:=by
 simp only[bH]at a;cases c:b.cells with
 |none=>simp[c]at a
 |some e=>
 simp only[c,Za]at a;subst a;refine gQ t (d x).cells e (j.cells c) g f ?_;simp only[execOp,i];exact WM (by simp only[Instr.box,newVar,Sem.run_bind,SU,Result.andThen_ok,Sem.run_pure])
theorem yp (t:TypeId)(z:N')(d:Operand->Value)(o:Oper)(g:o.op=.alloc t)(j:zeroOf P t=some z)(r:Va)(c:QF t z n []=some r)(f:h n=none)(e:X3 w O μ h):
  V0 O w μ h n ((execOp d o).run P w) r:=by
 simp only[QF,Za]at c;subst c;obtain⟨i,q,s,m,k,l,b,a⟩:=U2 j;have:=gQ (n:=n) t q.cells (z.map .p) (a w O μ h) f e (res:=(execOp d o).run P w)
  (by simp only[execOp,g];exact WM (by simp only[Instr.alloc,newVar,Sem.run_bind,b,SU,Result.andThen_ok,Sem.run_pure]))
 simpa using this
theorem P7:∀(a:Y') (g q:Nat),(∀(j:Nat) (d:DL),a[j]? =some d->∃v,w.cell? ⟨g,q+j,none⟩=some v/\XE w O μ h v d)->
  ∃b:List Value,XB (XE w O μ h) b a/\∀(j:Nat) (v:Value),b[j]? =some v->w.cell? ⟨g,q+j,none⟩=some v
 |[],_,_,_=>⟨[],.nil,fun j v f=>by simp at f⟩
 |c::a,g,q,H=>by
  obtain⟨v,f,l⟩:=H 0 c rfl;obtain⟨b,i,m⟩:=P7 a g (q+1) fun j d k=>by
   have:=H (j+1) d (by simpa using k)
   rwa[show q+(j+1)=q+1+j by omega]at this
  refine⟨v::b,.cons l i,fun j u e=> ?_⟩;cases j with
  |zero=>simp at e;subst e;simpa using f
  |succ j=>rw[show q+(j+1)=q+1+j by omega];exact m j u (by simpa using e)
theorem yy {t:TypeId}{a:Bool}(b:ej P t=some a):(isAgg t).run P w=.ok a w:=by
 unfold ej at b;unfold isAgg;split at b<;>simp only[Za,reduceCtorEq]at b<;>subst b<;>rename_i c
 ·simp[underlying,c]
 ·simp[underlying,c]
 ·rename_i e f;rename_i d;cases d<;>simp_all [underlying]
theorem dG (t:TypeId)(i:TypeInfo)(k:Bool)(z:ej P t=some k)(A:P.info? t=some i)(g q:Nat)(n:Y')
  (H:∀(j:Nat) (d:DL),n[j]? =some d->∃v,w.cell? ⟨g,q+j,none⟩=some v/\XE w O μ h v d) (s:DV) (l:Sa k i.size n=some s):
  ∃v,(Instr.loadAt t (.pointer (some ⟨g,q,none⟩))).run P w=.ok v w/\XA w O μ h v s:=by
 have f:=yy (w:=w) z;obtain⟨r,a,b⟩:=P7 n g q H;unfold Sa at l;cases k with
 |true=>
  simp only[cond_true]at l;obtain⟨m,rfl⟩:=XX l;have m:=W7 m;have p:(Go.sizeOf t).run P w=.ok i.size w:=by simp[Go.sizeOf,typeInfo,A]
  have C:=a.length;have e:=run_loadCells_list (P:=P) w ⟨g,q,none⟩ (r.take i.size) fun j v o=>by
   rw[UN];rw[Z8]at o;split at o
   ·exact b j v o
   ·simp at o
  rw[ZX,Yy (by omega)]at e;refine⟨.agg (r.take i.size).toArray,?_,⟨_,rfl,a.take i.size⟩⟩;simp only[Instr.loadAt,Instr.sureAddr,loadVar,Sem.run_bind,Sem.run_pure,Result.andThen_ok,f,if_true,p,e]
 |false=>
  simp only[cond_false]at l;cases a with
  |nil=>simp at l
  |@cons x c r n y B=>
  simp only[Za]at l;subst l;have u:=b 0 x rfl;refine⟨x,?_,y⟩;simp only[Instr.loadAt,Instr.sureAddr,loadVar,Sem.run_bind,Sem.run_pure,Result.andThen_ok,f,Zy,if_false];simp only[Z0]at u;simp[go_sem,u]
theorem O7 (l:X3 w O μ h){id i:Nat}{b:Xx}{c:Y'}(m:h id=some b)(o:b.mp=false)(n:b.ch[i]? =some c)(a:Nat):
  ∀(j:Nat) (d:DL),(c.drop a)[j]? =some d->∃v,w.cell? ⟨μ id,i*b.sz+a+j,none⟩=some v/\XE w O μ h v d:=by
 intro j d f;obtain⟨C,k,_,e⟩:=(l.RH id b m).cells o;rw[Yk]at f;obtain⟨v,g,p⟩:=(e i c n).2 (a+j) d f;refine⟨v,?_,p⟩;simp only[World.cell?,k];rw[<-Nat.add_assoc]at g;simpa using g
theorem pb {id XM i:Nat}{c:Y'}(a:QL h id XM i=some c):∃b,h id=some b/\b.XM=XM/\b.mp=false/\b.ch[i]? =some c:=by
 unfold QL at a;cases e:h id with
 |none=>simp[e]at a
 |some b=>
 simp only[e]at a;obtain⟨d,f⟩:=Wg a;rw[Zs]at d;exact⟨b,rfl,Zl d.1,by simpa using d.2,f⟩
theorem A7 (t:TypeId)(i:TypeInfo)(a:Bool)(x:Operand)(T:Operand->Value)(o:Oper)(R:o.op=.load t x)(M:ej P t=some a)(Q:P.info? t=some i)(L:DV)(S:XA w O μ h (T x) L)(r:Va)
  (f:PR a i.size h [L]=some r) (H:X3 w O μ h):V0 O w μ h n ((execOp T o).run P w) r:=by
 unfold PR at f;split at f
 ·rename_i F k;simp only[ZH,and_true]at k;subst k;cases z:Sa a i.size (F.map .p)with
  |none=>simp[z]at f
  |some G=>
  simp only[z,Za]at f;subst f;obtain⟨g,q,e,D,Z,B,W⟩:=S.fZ;obtain⟨v,s,m⟩:=dG (P:=P) (w:=w) (O:=O) (μ:=μ) (h:=h) t i a M Q g q (F.map .p) (fun j d E=>by
   rw[ZD]at E;cases u:F[j]? with
   |none=>simp[u]at E
   |some l=>
    simp only[u,Z6,Za]at E;subst E;exact⟨D j,B j l u,.p _ _ (W j l u)⟩) G z
  refine X8 H ?_ m;simp only[execOp,R];exact WM (by rw[e];exact s)
 ·rename_i id XM K y k;simp only[ZH,and_true]at k;subst k;cases B:QL h id XM K with
  |none=>simp[B]at f
  |some c=>
  simp only[B]at f;obtain⟨U,f⟩:=Wg f;cases z:Sa a i.size (c.drop y)with
  |none=>simp[z]at f
  |some G=>
  simp only[z,Za]at f;subst f;obtain⟨b,N,C,V,I⟩:=pb B;obtain⟨Y,g,q,e,A,X,J⟩:=S.P0;rw[N]at A;cases A;obtain⟨rfl,rfl⟩:=J C.symm;obtain⟨v,s,m⟩:=dG (P:=P) (w:=w) (O:=O) (μ:=μ) (h:=h) t i a M Q (μ id) (K*b.sz+y) (c.drop y) (O7 H N V I y) G z;refine Sj H ?_ m;simp only[execOp,R];exact WM (by rw[e];exact s)
 ·simp at f
end
end Go.Ev
namespace Go.Ev
theorem WD {d:Type}{a:Nat}:∀(L:List (List d)),(∀c∈L,c.length=a)->L.flatten.length=L.length*a
 |[],_=>by simp
 |c::L,hL=>by
  rw[List.flatten_cons,Zm,WD L (fun x b=>hL x (by simp[b])),hL c (by simp),Zi,ZG];omega
theorem Uw {b:Type}{a:Nat}:∀(L:List (List b)),(∀c∈L,c.length=a)->∀(i:Nat) (c:List b) (j:Nat) (d:b),L[i]? =some c->c[j]? =some d->L.flatten[i*a+j]? =some d
 |[],_,i,c,j,d,hi,_=>by simp at hi
 |x::L,hL,i,c,j,d,hi,hj=>by
  have e:=hL x (by simp);cases i with
  |zero=>
   simp at hi;subst hi;have :j<x.length:=(Zf.1 hj).1;rw[List.flatten_cons,ZA (by simpa using this)];simpa using hj
  |succ i=>
   rw[List.flatten_cons,ZJ (by rw[e,ZG];omega),e];rw[show(i+1)*a+j-a=i*a+j by rw[ZG];omega];exact Uw L (fun c f=>hL c (by simp[f])) i c j d (by simpa using hi) hj
theorem eW {e:Type}{a:Nat}:∀(L:List (List e)) (i:Nat) (b:List e),(∀c∈L,c.length=a)->b.length=a->i<L.length->
  (L.set i b).flatten=L.flatten.take (i*a)++b++L.flatten.drop (i*a+a)
 |[],i,b,_,_,hi=>by simp at hi
 |x::L,i,b,hL,hd,hi=>by
  have d:=hL x (by simp);cases i with
  |zero=>
   simp only[List.set_cons_zero,List.flatten_cons,YJ,Yg,List.take_zero,ZF];rw[<-d,YT (Ze _)];simp
  |succ i=>
   simp only[YQ,List.flatten_cons];rw[eW L i b (fun c f=>hL c (by simp[f])) hd (by simpa using hi)];have e1:(i+1)*a=x.length+i*a:=by rw[d,ZG];omega
   rw[e1,List.take_length_add_append];rw[show x.length+i*a+a=x.length+(i*a+a)by omega,List.drop_length_add_append];simp[Zq]
section
variable {P:Program}{O:BS}{w:World}{μ:Nat->Nat}{h:HF}{n:Nat}
theorem PH {w':World}(e q f b:Nat)(C:Array Value)(ch:K')(K:P')(m:ch.length=b)(r:∀c∈ch,c.length=q)(A:b<=f)(y:f*q=C.size)(s:f<=maxLen)
  (E:∀(i:Nat) (c:Y') (j:Nat) (d:DL),ch[i]? =some c->c[j]? =some d->∃v,C[i*q+j]? =some v/\XE w O μ h v d)
  (H:h n=none) (D:X3 w O μ h) (a:w'.heap[w.heap.size]? =some (.cells C e (0,0))) (g:∀k,k<w.heap.size->w'.heap[k]? =w.heap[k]?) (t:w'.os=w.os) (x:w'.tape=w.tape) (u:w'.output=w.output) {p:Result Next}
  (I:p=.ok (.value (.slice (some ⟨w.heap.size,0,none⟩) b f)) w'):V0 O w μ h n p ⟨.one (.own n 0 0 b),[⟨false,0,q,ch,false,e⟩],[],K⟩:=by
 have o:w.heap.size<=w'.heap.size:=Nat.le_of_lt (Ya.1 a).1;obtain⟨B,l⟩:=QM (w':=w') (n:=n) D H ⟨false,0,q,ch,false,e⟩ o g t x u;refine⟨_,_,_,.inl I,XE.own n 0 0 b _ _ _ _ (if_pos rfl) (Ze _) A (fun _=>⟨by simp,C,e,by simpa using a,.inl ⟨by simp,by simpa using y,s⟩⟩),l ?_,B⟩;refine Wr.OI rfl ⟨C,by simpa using a,?_,fun i c z=>⟨r c (Zk z),fun j d G=> ?_⟩⟩
 ·simp only[m];rw[<-y];exact Zn _ A
 ·obtain⟨v,J,F⟩:=E i c j d z G;exact⟨v,J,F.mono B⟩
theorem OM (f g:Nat->Value):Array.map f (Array.range 0)=Array.map g (Array.range 0):=by
 apply Array.ext';simp[Array.toList_map,Array.toList_range]
theorem dF {r:Value}{z:N'}(b:XB (XE w O μ h) r.cells.toList (z.map .p))(q:0<z.length)(e:Nat):
  XB (XE w O μ h) (madeCells r.cells (e*z.length)).toList (List.replicate e (z.map DL.p)).flatten:=by
 have g:=b.length;simp only[YG,ZP]at g;have a:∀c∈List.replicate e (z.map DL.p),c.length=z.length:=by intro c s;rw[List.eq_of_mem_replicate s];simp
 refine XB.Uj ?_ fun k x y i j=> ?_
 ·rw[WD _ a];simp[madeCells]
 ·have n:k<e*z.length:=by
   have:=(Zf.1 j).1;rw[WD _ a]at this;simpa using this
  have t:k / z.length<e:=by rw[Nat.div_lt_iff_lt_mul q];exact n
  have u:k%z.length<z.length:=Z1 _ q;obtain⟨d,l⟩:∃d,(z.map DL.p)[k%z.length]? =some d:=⟨(z.map DL.p)[k%z.length]'(by simpa using u),by rw[Zg]⟩;have m:=Uw _ a (k / z.length) (z.map DL.p) (k%z.length) d (by simp[t]) l;rw[show k / z.length*z.length+k%z.length=k from Nat.div_add_mod' k z.length]at m;rw[m]at j;cases j;obtain⟨v,o,f⟩:=b.get _ _ l;have :x=v:=by
   simp only[madeCells,Array.toList_map,ZD,Array.toList_range]at i;rw[List.getElem?_range n]at i;simp only[Z6,Za]at i;rw[<-i,g];rw[Array.getElem?_toList]at o;rw[getElem!_def,o]
  rw[this];exact f
theorem O5 {C:Array Value}{ch:K'}{b:Nat}(a:∀c∈ch,c.length=b)(e:XB (XE w O μ h) C.toList ch.flatten):
  ∀(i:Nat) (c:Y') (j:Nat) (d:DL),ch[i]? =some c->c[j]? =some d->∃v,C[i*b+j]? =some v/\XE w O μ h v d:=by
 intro i c j d f g;obtain⟨v,l,k⟩:=e.get _ _ (Uw ch a i c j d f g);exact⟨v,by simpa using l,k⟩
theorem kD (t e:TypeId)(z:N')(i:TypeInfo)(x y:Operand)(N:Operand->Value)(o:Oper)(ho:o.op=.makeSlice t x y)(ht:P.underlying t=some (.slice e))(hz:zeroOf P e=some z)(H:P.info? e=some i)(L:0<z.length)
  (Q R:DV) (K:XA w O μ h (N x) Q) (hy:XA w O μ h (N y) R) (r:Va) (E:Uu e z i.bytes n [Q,R]=some r) (Z:h n=none) (W:X3 w O μ h):V0 O w μ h n ((execOp N o).run P w) r:=by
 unfold Uu at E;split at E
 ·rename_i k1 l k2 c u;simp only[ZH,and_true]at u;obtain⟨rfl,rfl⟩:=u;obtain⟨D,rfl⟩:=XX E;simp only[Zs]at D;have U:=W7 D.1.1;have V:=W7 D.1.2;have h3:=W7 D.2;obtain⟨S,C,v,a1,B,a0,M,q⟩:=U2 hz;rw[H]at v;cases v;have A:(Instr.makeSlice t (.int k1 (Int.ofNat l)) (.int k2 (Int.ofNat c))).run P w=.ok (.slice (some ⟨w.heap.size,0,none⟩) l c) (w.alloc (.cells (madeCells C.cells (c*i.size)) e)):=by
   have X:(i.bytes:Int)*(c:Int)<=281474976710656:=by
    have :((i.bytes*c:Nat):Int)<=(lim:Nat):=by exact_mod_cast V
    unfold lim at this;simp at this;omega
   have w1:IntKind.i64.wrap (l:Int)=l:=IntWalk.i64_in _ (by omega);have w2:IntKind.i64.wrap (c:Int)=c:=IntWalk.i64_in _ (by omega);have I:∀w',(Go.sizeOf e).run P w'=.ok i.size w':=by intro w';simp[Go.sizeOf,typeInfo,H]
   have J:∀w',(typeInfo e).run P w'=.ok i w':=by intro w';simp[typeInfo,H]
   have F:∀(b:Nat) w',(askRoom b).run P w'=.ok () w':=by intro b w';unfold askRoom;split<;>simp[mark,Sem.run]
   have g:((decide ((c:Int)<0)||decide ((i.bytes:Int)*c>2^48))||decide ((l:Int)<0)||decide ((l:Int)>c))=false:=by
    simp;omega
   simp only[Instr.makeSlice,Sem.run_bind,run_underlying ht,Result.andThen_ok,asInt,asIntOf,Sem.run_pure,J,Zz,w1,w2];rw[if_neg (by rw[g];simp)];simp only[Sem.run_bind,F,I,Result.andThen_ok,Int.toNat_natCast];by_cases h0:c*i.size=0
   ·rw[if_pos h0];simp only[Sem.run_bind,Sem.run_pure,Result.andThen_ok,SU];rw[h0];unfold madeCells;rw[OM _ (fun x=>C.cells[x%C.cells.size]!)]
   ·rw[if_neg h0];simp only[Sem.run_bind,M,Sem.run_pure,Result.andThen_ok,SU];rfl
  have s:=dF (q w O μ h) L c;have f:∀m,∀x∈List.replicate m (z.map DL.p),x.length=z.length:=by intro m x K;rw[List.eq_of_mem_replicate K];simp
  refine PH (w':=w.alloc (.cells (madeCells C.cells (c*i.size)) e)) e z.length c l (madeCells C.cells (c*i.size)) _ _ (by simp) (f l) U (by simp[madeCells,B]) (by unfold maxLen;omega) ?_ Z W (heap_alloc_new w _) (fun k Y=>RowKit.Below.heap_alloc _ _ _ Y) rfl rfl rfl (by simp only[execOp,ho];exact WM (by rw[K.W5,hy.W5];exact A));intro S T j d a G;rw[<-B];refine O5 (f c) s S T j d ?_ G;rw[Yf]at a⊢;split at a
  ·rw[if_pos (by omega)];exact a
  ·simp at a
 ·simp at E
theorem jF {e:Nat}:∀(a:P') (j:X') (ch b:K'),(∀c∈ch,c.length=e)->Oc e ch a j=some b->
  Ob ch.flatten (a.map fun i=>(i*e,e)) j=some b.flatten/\(∀c∈b,c.length=e)/\b.length=ch.length
 |[],[],ch,b,hch,hf=>by simp only[Oc,Za]at hf;subst hf;exact⟨rfl,hch,rfl⟩
 |[],_::_,_,_,_,hf=>by simp[Oc]at hf
 |_::_,[],_,_,_,hf=>by simp[Oc]at hf
 |i::a,d::j,ch,b,hch,hf=>by
  simp only[Oc]at hf;cases n:d.cells with
  |none=>simp[n]at hf
  |some k=>
  simp only[n]at hf;obtain⟨l,o⟩:=Wg hf;rw[Zs]at l;have p:=Zl l.1;have u:=Qy l.2;have h:∀c∈ch.set i k,c.length=e:=by
   intro c t;rcases List.mem_or_eq_of_mem_set t with f|f
   ·exact hch c f
   ·rw[f];exact p
  obtain⟨f,r,s⟩:=jF a j _ b h o;refine⟨?_,r,by rw[s];simp⟩;simp only[Zt,Ob,n];have g:=WD ch hch;have q:i*e+e<=ch.flatten.length:=by
   rw[g];have:=Zn e (show i+1<=ch.length by omega);rw[ZG]at this;omega
  have m:(Nat.beq k.length e&&Nat.ble (i*e+e) ch.flatten.length)=true:=by
   rw[Zs];exact⟨by rw[p];exact YA _,by rw[Nat.ble_eq];exact q⟩
  rw[m,cond_true,<-eW ch i k hch p u];exact f
theorem gR (t e:TypeId)(z:N')(b:Nat)(a:Array (Nat×Operand))(F:Operand->Value)(o:Oper)(W:o.op=.buildSlice t b a)(Y:P.underlying t=some (.slice e))(hz:zeroOf P e=some z)(E:0<z.length)
  (X:b*z.length<=16777216) (G:X') (u:XB (fun y d=>XA w O μ h (F y.2) d) a.toList G) (r:Va) (H:Uc e z b (a.toList.map (·.1)) n G=some r) (V:h n=none) (S:X3 w O μ h):
  V0 O w μ h n ((execOp F o).run P w) r:=by
 unfold Uc at H;cases B:Oc z.length (List.replicate b (z.map .p)) (a.toList.map (·.1)) G with
 |none=>simp[B]at H
 |some ch=>
 simp only[B,Za]at H;subst H;obtain⟨i,R,T,a1,M,a0,N,v⟩:=U2 hz;have C:∀x∈List.replicate b (z.map DL.p),x.length=z.length:=by intro x Z;rw[List.eq_of_mem_replicate Z];simp
 obtain⟨g,s,A⟩:=jF _ _ _ _ C B;have m:XB (fun(p:Nat×Value) d=>XA w O μ h p.2 d) (a.map fun(x:Nat×Operand)=>(x.1,F x.2)).toList G:=by
  rw[Array.toList_map];clear B g;generalize a.toList=pl at u;induction u with
  |nil=>exact .nil
  |cons q _ Q=>exact .cons q Q
 have j:XB (fun(p:Nat×Value) q=>(fun x=>some (x*z.length,z.length)) p.1=some q) (a.map fun(x:Nat×Operand)=>(x.1,F x.2)).toList ((a.toList.map (·.1)).map fun i=>(i*z.length,z.length)):=by
  rw[Array.toList_map];clear B g u m;generalize a.toList=pt;induction pt with
  |nil=>exact .nil
  |cons q _ Q=>exact .cons rfl Q
 obtain⟨c,f,l⟩:=dT (fun x=>some (x*z.length,z.length)) _ _ _ (madeCells R.cells (b*z.length)) _ _ j m (dF (v w O μ h) E b) g;have L:∀w',(Go.sizeOf e).run P w'=.ok z.length w':=by intro w';rw[M];simp[Go.sizeOf,typeInfo,T]
 have I:c.size=b*z.length:=by
  have:=l.length;rw[WD ch s,A]at this;simpa using this
 have D:(Instr.buildSlice t b (a.map fun(x:Nat×Operand)=>(x.1,F x.2))).run P w=.ok (.slice (some ⟨w.heap.size,0,none⟩) b b) (w.alloc (.cells c e)):=by
  simp only[Instr.buildSlice,Sem.run_bind,run_underlying Y,Result.andThen_ok,L];rw[if_neg (by omega)];by_cases h0:b*z.length=0
  ·rw[if_pos h0];have J:(madeCells R.cells (b*z.length))=Array.map (fun x=>(#[]:Array Value)[x%(#[]:Array Value).size]!) (Array.range (b*z.length)):=by rw[h0];exact OM _ _
   rw[J]at f;simp only[Sem.run_bind,Sem.run_pure,Result.andThen_ok,f,SU]
  ·rw[if_neg h0];unfold madeCells at f;simp only[Sem.run_bind,N,Sem.run_pure,Result.andThen_ok,f,SU]
 have K:b<=maxLen:=by
  have :b*1<=b*z.length:=Yb _ E;unfold maxLen;omega
 exact PH (w':=w.alloc (.cells c e)) e z.length b b c ch [] (by rw[A];simp) s (Ze _) I.symm K (O5 s l) V S (heap_alloc_new w _) (fun k U=>RowKit.Below.heap_alloc _ _ _ U) rfl rfl rfl
  (by simp only[execOp,W];exact WM D)
end
end Go.Ev
namespace Go.Ev
section
variable {P:Program}{O:BS}{w:World}{μ:Nat->Nat}{h:HF}{n:Nat}
theorem Rj {w':World}(g:X3 w O μ h){id:Nat}{b b':Xx}{C C':Array Value}{g':Nat}(p:h id=some b)(J:b.mp=false)(A:b'.mp=false)(z:b.fz=false)
  (I:w.heap[μ id]? =some (.cells C b.ty (0,0))) (v:w'.heap[g']? =some (.cells C' b.ty (0,0))) (s:w.heap.size<=w'.heap.size) (f:∀k,k<w.heap.size->k≠μ id->w'.heap[k]? =w.heap[k]?)
  (d:g'=μ id\/w.heap.size<=g') (t:b.XM<=b'.XM) (n:b'.XM=b.XM->g'=μ id/\b'.sz=b.sz/\C'.size=C.size) (B:w'.os=w.os) (F:w'.tape=w.tape) (E:w'.output=w.output):
  Wy O w μ h w' (fun x=>if x=id then g' else μ x) (fun x=>if x=id then some b' else h x)/\
  (Wr w' O (fun x=>if x=id then g' else μ x) (fun x=>if x=id then some b' else h x) id b'->X3 w' O (fun x=>if x=id then g' else μ x) (fun x=>if x=id then some b' else h x)):=by
 have j:Live O μ h (μ id):=.inr ⟨id,b,p,z,rfl⟩;have m:∀a x,h a=some x->a≠id->μ a≠μ id:=fun a x c N e=>N (g.inj a id x b c p e)
 have q:Wy O w μ h w' (fun x=>if x=id then g' else μ x) (fun x=>if x=id then some b' else h x):=by
  refine⟨B,F,E,⟨s,fun k l M=>f k l fun e=>M (e▸j),fun k l=> ?_⟩,fun k l=>f k (g.lt k l) fun e=>g.S7 id b p (e▸l),fun a x c=> ?_,fun a x c r=> ?_⟩
  ·rcases l with l|⟨a,RH,hid,hf,i⟩
   ·exact .inl (.inl l)
   ·by_cases e:a=id
    ·subst e;simp only[if_true]at i;rcases d with d|d
     ·left;rw[<-i,d];exact j
     ·right;omega
    ·simp only[e,if_false]at hid i;exact .inl (.inr ⟨a,RH,hid,hf,i⟩)
  ·by_cases e:a=id
   ·subst e;rw[p]at c;cases c;refine⟨b',by simp,t,by rw[J,A],fun ev=> ?_⟩;obtain⟨e1,e2,K⟩:=n ev;refine⟨by simp[e1],e2,fun D T o=>⟨C',?_,?_⟩⟩
    ·rw[I]at o;cases o;rw[<-e1];exact v
    ·rw[I]at o;cases o;exact K
   ·refine⟨x,by simp[e,c],Ze _,rfl,fun _=>⟨by simp[e],rfl,fun D T o=>⟨D,?_,rfl⟩⟩⟩;rw[f _ (g.lt_size c) (m a x c e)];exact o
  ·by_cases e:a=id
   ·subst e;rw[p]at c;cases c;rw[J]at r;cases r
   ·simp[e]
 refine⟨q,fun L=>⟨fun a x c=> ?_,fun G H x y c u i=> ?_,fun a x c=> ?_,fun k l=>ZZ (g.lt k l) s⟩⟩
 ·by_cases e:a=id
  ·subst e;simp at c;subst c;exact L
  ·simp only[e,if_false]at c;exact(g.RH a x c).mono q (by simp only[e,if_false];exact f _ (g.lt_size c) (m a x c e))
 ·by_cases e1:G=id<;>by_cases e2:H=id
  ·rw[e1,e2]
  ·simp only[e2,if_false]at u;simp only[e1,e2,if_true,if_false]at i;rcases d with d|d
   ·exact absurd (i.symm.trans d) (m H y u e2)
   ·have:=g.lt_size u;omega
  ·simp only[e1,if_false]at c;simp only[e1,e2,if_true,if_false]at i;rcases d with d|d
   ·exact absurd (i.trans d) (m G x c e1)
   ·have:=g.lt_size c;omega
  ·simp only[e1,e2,if_false]at c u i;exact g.inj G H x y c u i
 ·by_cases e:a=id
  ·subst e;simp only[if_true];rcases d with d|d
   ·rw[d];exact g.S7 a b p
   ·intro P;have:=g.lt _ P;omega
  ·simp only[e,if_false]at c⊢;exact g.S7 a x c
theorem bc (g:Nat)(C:Array Value)(T:TypeId)(D:Array Value)(a:w.heap[g]? =some (.cells C T (0,0))):
  (w.setRow g D).heap[g]? =some (.cells D T (0,0))/\(∀k,k≠g->(w.setRow g D).heap[k]? =w.heap[k]?)/\(w.setRow g D).heap.size=w.heap.size:=by
 refine⟨?_,fun k b=> ?_,?_⟩
 ·simp[World.setRow,Array.getElem?_modify,a]
 ·simp only[World.setRow,Array.getElem?_modify];rw[if_neg (fun e=>b e.symm)]
 ·simp[World.setRow]
theorem gK (L a:List Value)(o:Nat)(e:o+a.length<=L.length)(k:Nat):
  (L.take o++a++L.drop (o+a.length))[k]? =if k<o then L[k]? else if k<o+a.length then a[k-o]? else L[k]? :=by
 have c:(L.take o).length=o:=by simp;omega
 by_cases b:k<o
 ·rw[if_pos b,Zq,ZA (by omega),Z8,if_pos b]
 ·rw[if_neg b,Zq,ZJ (by omega),c];by_cases d:k<o+a.length
  ·rw[if_pos d,ZA (by omega)]
  ·rw[if_neg d,ZJ (by omega),Yk];congr 1;omega
theorem yl (t:TypeId)(i:TypeInfo)(R:Nat)(x y:Operand)(G:Operand->Value)(o:Oper)(ho:o.op=.store t x y)(hi:P.info? t=some i)
  (dx dy:DV) (hx:XA w O μ h (G x) dx) (hy:XA w O μ h (G y) dy) (r:Va) (p:QC R i.size h [dx,dy]=some r) (hI:X3 w O μ h):V0 O w μ h n ((execOp G o).run P w) r:=by
 unfold QC at p;split at p
 ·rename_i id XM m a d2 V;simp only[ZH,and_true]at V;obtain⟨rfl,rfl⟩:=V;cases S:h id with
  |none=>simp[S]at p
  |some b=>
  simp only[S]at p;cases hc:dy.cells with
  |none=>simp[hc]at p
  |some cs=>
  simp only[hc,PE]at p;obtain⟨L,Q⟩:=Wg p;simp only[Zs]at L;obtain⟨⟨⟨⟨s,z⟩,N⟩,M⟩,_⟩:=L;have s:=Zl s;have M:=Zl M;have z:b.mp=false:=by simpa using z
  have N:b.fz=false:=by simpa using N
  cases u:b.ch[m]? with
  |none=>simp[u]at Q
  |some c=>
  simp only[u]at Q;obtain⟨Y,rfl⟩:=XX Q;have Y:=W7 Y;obtain⟨b2,g,q,e,T,_,a6⟩:=hx.P0;rw[S]at T;cases T;obtain⟨rfl,rfl⟩:=a6 s.symm;obtain⟨C,hC,a1,I⟩:=(hI.RH id b S).cells z;have a9:=(I m c u).1;have B:=hy.cells hc;have a0:=B.length;simp only[YG]at a0;have U:m<b.ch.length:=(Zf.1 u).1;have l:m*b.sz+a+(G y).cells.toList.length<=C.size:=by
   have h1:(m+1)*b.sz<=b.ch.length*b.sz:=Zn _ U;rw[ZG]at h1;simp only[YG];omega
  have F:=run_storeCells_at P (μ id) (m*b.sz+a) b.ty (G y).cells.toList 0 C w hC (by simpa using l) (fun v s=>by
   obtain⟨k,J⟩:=ZB.1 s;have a4:k<cs.length:=by have:=(Zf.1 J).1;simp at this;omega
   obtain⟨v',Z,a5⟩:=B.get k cs[k] (Zg a4);rw[J]at Z;cases Z;exact a5.one)
  simp only[Z0]at F;generalize hD:(List.take (m*b.sz+a) C.toList++(G y).cells.toList++List.drop (m*b.sz+a+(G y).cells.toList.length) C.toList).toArray=D at F;have K:D.size=C.size:=by rw[<-hD];simp at l⊢;omega
  have A:∀k,D[k]? =if k<m*b.sz+a then C[k]? else if k<m*b.sz+a+(G y).cells.toList.length then(G y).cells.toList[k-(m*b.sz+a)]? else C[k]? :=by
   intro k;rw[<-hD];have:=gK C.toList (G y).cells.toList (m*b.sz+a) (by simpa using l) k;simpa using this
  obtain⟨W,a2,a3⟩:=bc (w:=w) (μ id) C b.ty D hC;obtain⟨f,X⟩:=Rj (w':=w.setRow (μ id) D) (g':=μ id) (b':={b with ch:=b.ch.set m (c.take a++cs++c.drop (a+i.size))}) hI S z z N hC W (by rw[a3];exact Ze _)
   (fun k _ J=>a2 k J) (.inl rfl) (Ze _) (fun _=>⟨rfl,rfl,K⟩) rfl rfl rfl
  refine⟨undef,w.setRow (μ id) D,_,.inr ⟨?_,rfl⟩,⟨[],rfl,.nil⟩,X ?_,f⟩
  ·simp only[execOp,ho];have a7:(Go.sizeOf t).run P w=.ok i.size w:=by simp[Go.sizeOf,typeInfo,hi]
   rw[e];simp only[Instr.storeAt,Instr.sureAddr,Sem.run_bind,Sem.run_pure,Result.andThen_ok,storeVar,a7];rw[if_neg (by omega)];rw[F];rfl
  ·refine Wr.OI z ⟨D,by simpa using W,?_,fun k ck J=> ?_⟩
   ·simp only[ZL];rw[K];exact a1
   ·by_cases ek:k=m
    ·subst ek;rw[Yv U]at J;cases J;refine⟨by simp;omega,fun j d E=> ?_⟩;have a8:(c.take a).length=a:=by simp;omega
     show∃v,D[k*b.sz+j]? =some v/\_;rw[A];rw[Zq]at E;by_cases h1:j<a
     ·rw[ZA (by omega),Z8,if_pos h1]at E;obtain⟨v,s,p⟩:=(I k c u).2 j d E;rw[if_pos (by omega)];exact⟨v,s,p.mono f⟩
     ·rw[ZJ (by omega),a8]at E;rw[if_neg (by omega)];by_cases h2:j<a+i.size
      ·rw[ZA (by omega)]at E;obtain⟨v,s,p⟩:=B.get (j-a) d E;rw[if_pos (by simp only[YG];omega)];exact⟨v,by rw[<-s];congr 1;omega,p.mono f⟩
      ·rw[ZJ (by omega),Yk]at E;obtain⟨v,s,p⟩:=(I k c u).2 j d (by rw[<-E];congr 1;omega);rw[if_neg (by simp only[YG];omega)];exact⟨v,s,p.mono f⟩
    ·rw[ZK (fun e=>ek e.symm)]at J;obtain⟨hl,H⟩:=I k ck J;refine⟨hl,fun j d E=> ?_⟩;have b0:j<b.sz:=by have:=(Zf.1 E).1;omega
     obtain⟨v,s,p⟩:=H j d E;refine⟨v,?_,p.mono f⟩;show D[k*b.sz+j]? =some v;rw[A];rcases Nat.lt_or_gt_of_ne ek with hlt|hgt
     ·have:=Zn b.sz (show k+1<=m by omega);rw[ZG]at this;rw[if_pos (by omega)];exact s
     ·have:=Zn b.sz (show m+1<=k by omega);rw[ZG]at this;rw[if_neg (by omega),if_neg (by simp only[YG];omega)];exact s
 ·simp at p
end
end Go.Ev
namespace Go.Ev
section
variable {P:Program}{O:BS}{w:World}{μ:Nat->Nat}{h:HF}{n:Nat}
theorem Te {w':World}(c:X3 w O μ h)(f:w.heap.size<=w'.heap.size)(a:∀k,k<w.heap.size->w'.heap[k]? =w.heap[k]?)(g:w'.os=w.os)(j:w'.tape=w.tape)(i:w'.output=w.output):
  Wy O w μ h w' μ h/\X3 w' O μ h:=by
 have l:Wy O w μ h w' μ h:=⟨g,j,i,⟨f,fun k d _=>a k d,fun k d=>.inl d⟩,fun k d=>a k (c.lt k d),
  fun id b e=>⟨b,e,Ze _,rfl,fun _=>⟨rfl,rfl,fun C T m=>⟨C,by rw[a _ (c.lt_size e)];exact m,rfl⟩⟩⟩,fun _ _ _ _=>rfl⟩
 exact⟨l,⟨fun id b e=>(c.RH id b e).mono l (a _ (c.lt_size e)),c.inj,c.S7,fun k d=>ZZ (c.lt k d) f⟩⟩
theorem lC (hI:X3 w O μ h){v:Value}{y:DL}{r:K'}{a0:P'}{a:Nat}(hy:XA w O μ h v (.one y))(s:Wv h y=some (r,a0))(n:∀c∈r,c.length=a):
  (v=.slice none 0 0/\r=[])\/∃(ad:Addr) (c:Nat) (F:List Value),v=.slice (some ad) r.length c/\XB (XE w O μ h) F r.flatten/\∀(j:Nat) (u:Value),F[j]? =some u->w.cell? (ad.add j)=some u:=by
 unfold Wv at s;split at s
 ·simp only[Za,Zp]at s;obtain⟨rfl,rfl⟩:=s;exact .inl ⟨hy.bP,rfl⟩
 ·rename_i x;simp only[Za,Zp]at s;obtain⟨rfl,rfl⟩:=s;obtain⟨b,f,a1,t,sp,e,k,M,hs,S,hl,G,hp⟩:=hy.bQ;right;rcases k with rfl|rfl
  ·exact⟨⟨b,f,sp⟩,t,[],by simpa using e,.nil,fun j u R=>by simp at R⟩
  refine⟨⟨b,f,none⟩,t,?_⟩;have E:x≠[]->a1=a:=by
   intro z;cases x with
   |nil=>exact absurd rfl z
   |cons c cs=>rw[<-hs 0 c rfl];simpa using n (c.map .p) (by simp)
  obtain⟨xs,V,hx⟩:=P7 (w:=w) (O:=O) (μ:=μ) (h:=h) (x.map (·.map DL.p)).flatten b f (by
   intro j d J;have z:x≠[]:=by intro e0;subst e0;simp at J
   have A:∀c∈x.map (·.map DL.p),c.length=a:=n;have m:=(Zf.1 J).1;rw[WD _ A,ZP]at m;have k:0<a:=by
    rcases Yn a with h0|h0
    ·subst h0;omega
    ·exact h0
   have I:j / a<x.length:=by rw[Nat.div_lt_iff_lt_mul k];exact m
   have hr:j%a<a:=Z1 _ k;have H:x[j / a].length=a:=(hs _ _ (Zg I)).trans (E z);have Q:=Uw _ A (j / a) (x[j / a].map DL.p) (j%a) (.p (x[j / a][j%a]'(by omega))) (by simp[I]) (by simp[H,hr]);rw[show j / a*a+j%a=j from Nat.div_add_mod' j a,J]at Q;cases Q;refine⟨S (j / a) (j%a),?_,.p _ _ (hp _ _ _ _ (Zg I) (Zg (by omega)))⟩;have:=G (j / a) _ (j%a) _ (Zg I) (Zg (by omega));rw[E z]at this;rw[<-this];congr 2;have:=Nat.div_add_mod' j a;omega)
  exact⟨xs,by simpa using e,V,fun j u R=>by rw[UN];exact hx j u R⟩
 ·rename_i id XM f o;cases U:h id with
  |none=>simp[U]at s
  |some b=>
  simp only[U]at s;obtain⟨i,P⟩:=XX s;simp only[Zp]at P;obtain⟨rfl,rfl⟩:=P;simp only[Zs]at i;have hv:=Zl i.1.1;have hm:b.mp=false:=by simpa using i.1.2
  have a3:=W7 i.2;obtain⟨b2,g,q,t,e,L,_,M,Y⟩:=hy.Rh;rw[U]at L;cases L;obtain⟨rfl,C,T,hC,hd⟩:=Y hv.symm;obtain⟨C2,K,a2,N⟩:=(hI.RH id b U).cells hm;rw[hC]at K;cases K;have D:((b.ch.drop f).take o).length=o:=by simp;omega
  right;refine⟨⟨μ id,q,none⟩,t,?_⟩;obtain⟨xs,V,hx⟩:=P7 (w:=w) (O:=O) (μ:=μ) (h:=h) ((b.ch.drop f).take o).flatten (μ id) q (by
   intro j d J;have m:=(Zf.1 J).1;rw[WD _ n,D]at m;have k:0<a:=by
    rcases Yn a with h0|h0
    ·subst h0;omega
    ·exact h0
   have I:j / a<o:=by rw[Nat.div_lt_iff_lt_mul k];exact m
   have hr:j%a<a:=Z1 _ k;have l:f+j / a<b.ch.length:=by omega
   have B:((b.ch.drop f).take o)[j / a]? =some b.ch[f+j / a]:=by
    rw[Z8,if_pos I,Yk,Zg l]
   have H:(b.ch[f+j / a]).length=a:=n _ (Zk B);have W:b.sz=a:=by rw[<-(N _ _ (Zg l)).1];exact H
   have Q:=Uw _ n (j / a) _ (j%a) (b.ch[f+j / a][j%a]'(by omega)) B (Zg (by omega));rw[show j / a*a+j%a=j from Nat.div_add_mod' j a,J]at Q;cases Q;obtain⟨v,Z,X⟩:=(N _ _ (Zg l)).2 (j%a) _ (Zg (by omega));refine⟨v,?_,X⟩;rcases hd with⟨ho,_,_⟩|⟨h0,_,_⟩
   ·simp only[World.cell?,hC];simp only[Option.isSome_none,Zy,if_false];rw[<-Z,ho,W];congr 1;have:=Nat.div_add_mod' j a;rw[ZG];omega
   ·exact absurd I (by rw[h0];exact Nat.not_lt_zero _))
  exact⟨xs,by rw[D];exact e,V,fun j u R=>by rw[UN];exact hx j u R⟩
 ·simp at s
theorem xW {d:Nat}{b:K'}(a:b.all (fun c=>Nat.beq c.length d)=true):∀c∈b,c.length=d:=by
 intro c e;exact Zl (ZI.1 a c e)
theorem cy {a:List Value}{b:Y'}(c:XB (XE w O μ h) a b):∀u∈a,u.oneCell'=true:=by
 induction c with
 |nil=>simp
 |cons e _ f=>intro u d;rcases Zj.1 d with rfl|h1;exact e.one;exact f u h1
theorem PG (X:X3 w O μ h){id:Nat}{b:Xx}{C:Array Value}(Y:h id=some b)(r:b.mp=false)(R:b.fz=false)(I:w.heap[μ id]? =some (.cells C b.ty (0,0)))(p:Nat)(e:K')(t:∀c∈e,c.length=b.sz)
  (T:p+e.length<=b.ch.length) (a:List Value) (g:XB (XE w O μ h) a e.flatten):
  (storeCells ⟨μ id,p*b.sz,none⟩ a).run P w=.ok () (w.setRow (μ id) (C.toList.take (p*b.sz)++a++C.toList.drop (p*b.sz+a.length)).toArray)/\
  Wy O w μ h (w.setRow (μ id) (C.toList.take (p*b.sz)++a++C.toList.drop (p*b.sz+a.length)).toArray) (fun x=>if x=id then μ id else μ x) (fun x=>if x=id then some {b with ch:=b.ch.take p++e++b.ch.drop (p+e.length)}else h x)/\
  X3 (w.setRow (μ id) (C.toList.take (p*b.sz)++a++C.toList.drop (p*b.sz+a.length)).toArray) O (fun x=>if x=id then μ id else μ x) (fun x=>if x=id then some {b with ch:=b.ch.take p++e++b.ch.drop (p+e.length)}else h x)/\
  ∃D:Array Value,(w.setRow (μ id) (C.toList.take (p*b.sz)++a++C.toList.drop (p*b.sz+a.length)).toArray).heap[μ id]? =some (.cells D b.ty (0,0))/\D.size=C.size:=by
 obtain⟨C2,z,K,L⟩:=(X.RH id b Y).cells r;rw[I]at z;cases z;have Q:=WD e t;have U:a.length=e.length*b.sz:=by rw[g.length,Q]
 have i:p*b.sz+a.length<=C.size:=by
  have:=Zn b.sz T;rw[ZG]at this;omega
 have o:=run_storeCells_at P (μ id) (p*b.sz) b.ty a 0 C w I (by simpa using i) (cy g);simp only[Z0]at o;generalize W:(List.take (p*b.sz) C.toList++a++List.drop (p*b.sz+a.length) C.toList).toArray=D at o;have n:D.size=C.size:=by rw[<-W];simp;omega
 have m:∀k,D[k]? =if k<p*b.sz then C[k]? else if k<p*b.sz+a.length then a[k-p*b.sz]? else C[k]? :=by
  intro k;rw[<-W];have:=gK C.toList a (p*b.sz) (by simpa using i) k;simpa using this
 obtain⟨s,M,N⟩:=bc (w:=w) (μ id) C b.ty D I;obtain⟨f,B⟩:=Rj (w':=w.setRow (μ id) D) (g':=μ id) (b':={b with ch:=b.ch.take p++e++b.ch.drop (p+e.length)}) X Y r r R I s (by rw[N];exact Ze _)
  (fun k _ l=>M k l) (.inl rfl) (Ze _) (fun _=>⟨rfl,rfl,n⟩) rfl rfl rfl
 refine⟨o,f,B ?_,D,s,n⟩;have G:(b.ch.take p).length=p:=by simp;omega
 refine Wr.OI r ⟨D,by simpa using s,?_,fun k u l=> ?_⟩
 ·simp only[Zm,List.length_drop,G];rw[n,show p+e.length+(b.ch.length-(p+e.length))=b.ch.length by omega];exact K
 ·simp only[Zq]at l;have H:b.ch[k]? =some u->(k<p\/p+e.length<=k)->u.length=b.sz/\∀(j:Nat) (d:DL),u[j]? =some d->∃v,D[k*b.sz+j]? =some v/\XE (w.setRow (μ id) D) O (fun x=>if x=id then μ id else μ x) (fun x=>if x=id then some {b with ch:=b.ch.take p++e++b.ch.drop (p+e.length)}else h x) v d:=by
   intro l F;obtain⟨Z,q⟩:=L k u l;refine⟨Z,fun j d E=> ?_⟩;have S:j<b.sz:=by have:=(Zf.1 E).1;omega
   obtain⟨v,J,V⟩:=q j d E;refine⟨v,?_,V.mono f⟩;rw[m];rcases F with y|y
   ·have:=Zn b.sz (show k+1<=p by omega);rw[ZG]at this;rw[if_pos (by omega)];exact J
   ·have:=Zn b.sz y;rw[ZG]at this;rw[if_neg (by omega),if_neg (by omega)];exact J
  by_cases y:k<p
  ·rw[ZA (by omega),Z8,if_pos y]at l;exact H l (.inl y)
  ·rw[ZJ (by omega),G]at l;by_cases h2:k<p+e.length
   ·rw[ZA (by omega)]at l;have A:=t u (Zk l);refine⟨A,fun j d E=> ?_⟩;have S:j<b.sz:=by have:=(Zf.1 E).1;omega
    obtain⟨v,J,V⟩:=g.get _ _ (Uw _ t _ u j d l E);refine⟨v,?_,V.mono f⟩;show D[k*b.sz+j]? =some v;have e1:k*b.sz=p*b.sz+(k-p)*b.sz:=by rw[<-ZG];congr 1;omega
    have e2:=Zn b.sz (show(k-p)+1<=e.length by omega);rw[ZG]at e2;rw[m,if_neg (by omega),if_pos (by omega),<-J];congr 1;omega
   ·rw[ZJ (by omega),Yk]at l;exact H (by rw[<-l];congr 1;omega) (.inr (by omega))
theorem vz (s:Operand)(t:TypeId)(b:Operand->Value)(o:Oper)(c:o.op=.call ⟨.builtin .clear,#[s],#[t]⟩){v:Value}{a:World}
  (d:(Builtin.clear_ #[t] o.type #[b s]).run P w=.ok v a):(execOp b o).run P w=.ok (.value v) a:=by
 simp only[execOp,c,resolve,invoke,builtin,Sem.run_bind,Sem.run_pure,Result.andThen_ok,List.map_toArray,Zt,ZN,d]
theorem yo (t e:TypeId)(z:N')(B:Nat)(s:Operand)(U:Operand->Value)(o:Oper)(ho:o.op=.call ⟨.builtin .clear,#[s],#[t]⟩)(ht:P.underlying t=some (.slice e))(hz:zeroOf P e=some z)(N:0<z.length)
  (V:DV) (hs:XA w O μ h (U s) V) (r:Va) (A:QE B z h [V]=some r) (X:X3 w O μ h):V0 O w μ h n ((execOp U o).run P w) r:=by
 unfold QE at A;split at A
 ·rename_i id XM I y G;simp only[ZH,and_true]at G;subst G;cases E:h id with
  |none=>simp[E]at A
  |some b=>
  simp only[E]at A;obtain⟨f,rfl⟩:=XX A;simp only[Zs]at f;obtain⟨⟨⟨⟨⟨L,j⟩,l⟩,d⟩,u⟩,_⟩:=f;have L:=Zl L;have d:=Zl d;have u:=W7 u;have j:b.mp=false:=by simpa using j
  have l:b.fz=false:=by simpa using l
  obtain⟨i,S,hi,a3,M,R,Q,x⟩:=U2 hz;obtain⟨b2,g,q,a0,es,F,_,Y,K⟩:=hs.Rh;rw[E]at F;cases F;obtain⟨rfl,C,T,W,hd⟩:=K L.symm;obtain⟨C2,D,a1,a2⟩:=(X.RH id b E).cells j;have J:w.heap[μ id]? =some (.cells C b.ty (0,0)):=by rw[W]at D;cases D;exact W
  have v:=dF (w:=w) (O:=O) (μ:=μ) (h:=h) (x w O μ h) N y;obtain⟨a,Z,k,_⟩:=PG (P:=P) X E j l J I (List.replicate y (z.map .p)) (fun c hc=>by rw[List.eq_of_mem_replicate hc,d];simp) (by simpa using u) _ v;simp only[YO]at Z k;refine⟨.tuple #[],_,_,.inl (vz s t U o ho ?_),⟨[],rfl,.nil⟩,k,Z⟩;rw[es];cases y with
  |zero=>
   have H:(madeCells S.cells (0*z.length)).toList=[]:=by simp[madeCells]
   rw[H]at a⊢;have e0:(storeCells ⟨μ id,I*b.sz,none⟩ []).run P w=.ok () w:=by simp[storeCells]
   rw[e0]at a;simp only[Result.ok.injEq,true_and]at a;rw[<-a];simp[Builtin.clear_,run_underlying ht]
  |succ m=>
   obtain⟨hq,_,_⟩:=hd.resolve_right (fun h0=>by omega);have e1:(Builtin.zeroCells S.cells (m+1))=madeCells S.cells ((m+1)*z.length):=by rw[M,<-R];rfl
   subst hq;simp[Builtin.clear_,run_underlying ht,Q,e1,a]
 ·simp at A
theorem Aa (s x:Operand)(t u:TypeId)(a:Operand->Value)(o:Oper)(c:o.op=.call ⟨.builtin .copy,#[s,x],#[t,u]⟩){v:Value}{b:World}
  (d:(Builtin.copy_ #[t,u] o.type #[a s,a x]).run P w=.ok v b):(execOp a o).run P w=.ok (.value v) b:=by
 simp only[execOp,c,resolve,invoke,builtin,Sem.run_bind,Sem.run_pure,Result.andThen_ok,List.map_toArray,Zt,ZN,d]
theorem bW {e:Type}{a:Nat}:∀(L:List (List e)),(∀c∈L,c.length=a)->∀m,(L.take m).flatten=L.flatten.take (m*a)
 |[],_,m=>by simp
 |c::L,hL,0=>by simp
 |c::L,hL,m+1=>by
  have b:=hL c (by simp);rw[List.take_succ_cons,List.flatten_cons,List.flatten_cons,bW L (fun x d=>hL x (by simp[d])) m,ZG,Z4,Nat.add_comm,<-b,List.take_length_add_append]
theorem A9 (t e:TypeId)(i:TypeInfo)(M:Nat)(s x:Operand)(L:Operand->Value)(o:Oper)(ho:o.op=.call ⟨.builtin .copy,#[s,x],#[t,t]⟩)(ht:P.underlying t=some (.slice e))(hi:P.info? e=some i)
  (ds dx:DV) (hs:XA w O μ h (L s) ds) (hx:XA w O μ h (L x) dx) (r:Va) (F:PT M i.size h [ds,dx]=some r) (hI:X3 w O μ h):V0 O w μ h n ((execOp L o).run P w) r:=by
 unfold PT at F;split at F
 ·rename_i id XM Y a y V;simp only[ZH,and_true]at V;obtain⟨rfl,rfl⟩:=V;cases S:h id with
  |none=>simp[S]at F
  |some b=>
  simp only[S]at F;cases H:Wv h y with
  |none=>simp[H]at F
  |some q=>
  obtain⟨d,b1⟩:=q;simp only[H,O4]at F;obtain⟨z,rfl⟩:=XX F;simp only[Zs]at z;obtain⟨⟨⟨⟨⟨⟨hv,B⟩,J⟩,v⟩,W⟩,R⟩,_⟩:=z;have hv:=Zl hv;have v:=Zl v;have W:=W7 W;have B:b.mp=false:=by simpa using B
  have J:b.fz=false:=by simpa using J
  have A:=xW R;have X:=lC hI hx H A;have a1:=WD d A;obtain⟨b2,g,q,a7,es,U,_,a5,a4⟩:=hs.Rh;rw[S]at U;cases U;obtain⟨rfl,C,T,hC,hd⟩:=a4 hv.symm;obtain⟨C2,Q,a9,b0⟩:=(hI.RH id b S).cells B;have a0:w.heap[μ id]? =some (.cells C b.ty (0,0)):=by rw[hC]at Q;cases Q;exact hC
  have K:(d.take a).length=Nat.min a d.length:=ZX;have a6:Nat.min a d.length<=a:=Nat.min_le_left ..;obtain⟨f,k,E,l⟩:∃f,XB (XE w O μ h) f (d.take a).flatten/\(Builtin.lenOf (L x)).run P w=.ok d.length w/\(Builtin.firstCells i.size (Nat.min d.length a) (L x)).run P w=.ok f.toArray w:=by
   rcases X with⟨N,rfl⟩|⟨ad,c,f,N,k,I⟩
   ·exact⟨[],by rw[List.take_nil];exact .nil,by rw[N];rfl,by rw[N];exact run_firstCells_none w i.size _ 0 0⟩
   ·refine⟨f.take (a*i.size),by rw[bW d A];exact k.take _,by rw[N];rfl,?_⟩;rw[N];refine run_firstCells_some w i.size _ ad d.length c (f.take (a*i.size)) ?_ fun j u Z=> ?_
    ·rw[ZX,k.length,a1];rcases Nat.le_total a d.length with G|G
     ·rw[Yy (Zn _ G),show Nat.min d.length a=a from Nat.min_eq_right G]
     ·rw[Nat.min_eq_right (Zn _ G),show Nat.min d.length a=d.length from Yy G]
    ·rw[Z8]at Z;split at Z
     ·exact I j u Z
     ·simp at Z
  obtain⟨m,hm,D,_⟩:=PG (P:=P) hI S B J a0 Y (d.take a) (fun c H=>by rw[A c (YC H),v]) (by rw[K];omega) f k;rw[K]at hm D;refine⟨goInt (Nat.min d.length a:Nat),_,_,.inl (Aa s x t t L o ho ?_),?_,D,hm⟩
  ·rw[es];by_cases h0:Nat.min a d.length=0
   ·have a3:f=[]:=by
     have:=k.length;rw[WD _ (fun c H=>A c (YC H)),K,h0,YJ]at this;exact Ye this
    subst a3;have e0:(storeCells ⟨μ id,Y*b.sz,none⟩ []).run P w=.ok () w:=by simp[storeCells]
    rw[e0]at m;simp only[Result.ok.injEq,true_and]at m;rw[<-m];simp[Builtin.copy_,run_underlying ht,sizeOf,typeInfo,hi,E,l,storeCells]
   ·have a2:a=0->False:=fun G=>h0 (by rw[G];exact Nat.zero_min _)
    obtain⟨hq,_,_⟩:=hd.resolve_right (fun a8=>a2 (by omega));subst hq;simp[Builtin.copy_,run_underlying ht,sizeOf,typeInfo,hi,E,l,m]
  ·have e1:Nat.min d.length a=Nat.min a d.length:=Nat.min_comm ..;rw[e1];exact XE.p _ _ (.int ..)
 ·simp at F
theorem Rv (s x:Operand)(t:TypeId)(a:Operand->Value)(o:Oper)(c:o.op=.call ⟨.builtin .append,#[s,x],#[t,t]⟩){v:Value}{b:World}
  (d:(Builtin.append_ #[t,t] o.type #[a s,a x]).run P w=.ok v b):(execOp a o).run P w=.ok (.value v) b:=by
 simp only[execOp,c,resolve,invoke,builtin,Sem.run_bind,Sem.run_pure,Result.andThen_ok,List.map_toArray,Zt,ZN,d]
theorem uk (t e:TypeId)(z:N')(i:TypeInfo)(c5:Nat)(s x:Operand)(ρ:Operand->Value)(o:Oper)(ho:o.op=.call ⟨.builtin .append,#[s,x],#[t,t]⟩)(ht:P.underlying t=some (.slice e))(hz:zeroOf P e=some z)(hi:P.info? e=some i)(d8:0<z.length)
  (ds dx:DV) (hs:XA w O μ h (ρ s) ds) (hx:XA w O μ h (ρ x) dx) (r:Va) (hr:Vh c5 e z.length i.bytes h n [ds,dx]=some r) (hn:r.al≠[]->h n=none) (hI:X3 w O μ h):V0 O w μ h n ((execOp ρ o).run P w) r:=by
 cases ds with
 |agg _=>simp[Vh]at hr
 |X9 _=>simp[Vh]at hr
 |one ls=>
 cases dx with
 |agg _=>simp[Vh]at hr
 |X9 _=>simp[Vh]at hr
 |one lx=>
 simp only[Vh]at hr;cases hc:Wv h lx with
 |none=>simp[hc]at hr
 |some q=>
 obtain⟨m,e1⟩:=q;simp only[hc]at hr;obtain⟨c8,J⟩:=Wg hr;clear hr;have X:=xW c8;obtain⟨i',zv,d4,e0,a0,d9,f7,f3⟩:=U2 hz;rw[hi]at d4;cases d4;have b4:=lC hI hx hc X;have c1:=WD m X;split at J
 ·
  have es:=hs.bP;unfold WZ at J;obtain⟨hb,a6⟩:=Wg J;simp only[Zs]at hb;have c9:=W7 hb.1;have a2:=W7 hb.2;unfold lim at c9;rcases b4 with⟨ex,rfl⟩|⟨ad,c,f,ex,a,G⟩
  ·simp only[Za]at a6;subst a6;refine Sj hI (Rv s x t ρ o ho (by rw[es,ex];exact run_append_owned_none w 0 t o.type e i z.length ht hi _ 0 [] (World.ownsRow_nil w 0 e z.length))) (XE.p _ _ .Xq)
  ·have b3:f.length=m.length*z.length:=by rw[a.length,c1]
   obtain⟨v',w',K,R,A,b1,a7⟩:=run_append_own_at (P:=P) w 0 t o.type e i zv z.length i.bytes ht hi e0 a0.symm rfl (by rw[d9,a0]) d8 (.slice none 0 0) 0 [] (World.ownsRow_nil w 0 e z.length) ad m.length c f b3 G (cy a)
    (by unfold maxLen;omega) (by simpa using c9) (Zw _)
   have a4:=Rv (P:=P) (w:=w) s x t ρ o ho (by rw[es,ex];exact K);simp only[Yg,ZF]at R;cases m with
   |nil=>
    simp only[Za]at a6;subst a6;have c4:v'=.slice none 0 0:=b1.2 ⟨rfl,rfl⟩;subst c4;obtain⟨hm,Q⟩:=Te (w':=w') hI A.size (fun k U=>A.block k U (by simp[Value.ownBlock])) A.os A.tape A.output;exact⟨_,w',μ,.inl a4,XE.p _ _ .Xq,Q,hm⟩
   |cons c0 c6=>
    simp only[Za]at a6;subst a6;rcases R.2 with⟨_,h0⟩|⟨g,M,B,rfl,_,hg,a5,a8,a3,Tx⟩
    ·simp at h0
    ·have d3:g=w.heap.size:=by
      rcases a7 with h1|h1
      ·simp[Value.ownBlock]at h1
      ·simpa[Value.ownBlock]using h1
     subst d3;refine PH (w':=w') e z.length M (c0::c6).length B (c0::c6) e1 rfl X a5 a3.symm a8 ?_ (hn (by simp)) hI hg (fun k U=>A.block k U (by simp[Value.ownBlock])) A.os A.tape A.output a4;intro k ck j d U hj;have hf:=Uw _ X k ck j d U hj;obtain⟨v,hv,S⟩:=a.get _ _ hf;refine⟨v,?_,S⟩;rw[<-Tx,Z8]at hv;split at hv
     ·simpa using hv
     ·simp at hv
 ·
  rename_i id XM l;cases hb:h id with
  |none=>simp[hb]at J
  |some b=>
  simp only[hb]at J;cases d7:Nat.beq b.ch.length l with
  |false=>
   rw[d7,cond_false,Ry]at J;obtain⟨H,rfl⟩:=XX J;simp only[Zs]at H;obtain⟨⟨⟨⟨⟨⟨hv,I⟩,W⟩,Y⟩,u⟩,E⟩,_⟩:=H;have hv:=Zl hv;have Y:=W7 Y;have u:=Zl u;have I:b.mp=false:=by simpa using I
   have W:b.fz=false:=by simpa using W
   obtain⟨b2,g,q,M,es,a2,_,N,c3⟩:=hs.Rh;rw[hb]at a2;cases a2;obtain⟨rfl,C,T,hC,hd⟩:=c3 hv.symm;obtain⟨C2,V,b7,b9⟩:=(hI.RH id b hb).cells I;have e2:w.heap[μ id]? =some (.cells C b.ty (0,0)):=by rw[hC]at V;cases V;exact hC
   obtain⟨hq,y,L⟩:=hd.resolve_right (fun h0=>by omega);simp only[YJ,Yg]at hq y;subst hq;have d2:l+m.length<=M:=by
    rw[hC]at V;cases V;rw[<-y]at b7;have:=Nat.le_of_mul_le_mul_right b7 (by omega:0<b.sz);omega
   obtain⟨f,a,b5⟩:∃f,XB (XE w O μ h) f m.flatten/\Src P i.size t (ρ x) m.length f w:=by
    rcases b4 with⟨ex,rfl⟩|⟨ad,c,f,ex,a,G⟩
    ·exact⟨[],.nil,by rw[ex];exact Src.ofNil w ht 0⟩
    ·refine⟨f,a,?_⟩;rw[ex];exact Src.ofSlice w ht ad m.length c f (by rw[a.length,c1,a0]) G (cy a)
   obtain⟨K,hm,Q,D,hD,e3⟩:=PG (P:=P) hI hb I W e2 l m (fun c hc=>by rw[X c hc,u]) Y f a;refine⟨.slice (some ⟨μ id,0,none⟩) (l+m.length) M,_,_,.inl (Rv s x t ρ o ho ?_),?_,Q,hm⟩
   ·rw[es];rw[u,a0]at K;rw[u,a0];simp[Builtin.append_,run_underlying ht,sizeOf,typeInfo,hi,b5.len,d2,b5.cells,Addr.add_lit,K]
   ·refine XE.own id XM 0 (l+m.length) _ _ _ _ (if_pos rfl) (by simp only[];omega) d2 fun _=>⟨by simp,D,b.ty,by simpa using hD,.inl ⟨by simp,?_,L⟩⟩
    simp only[Yg];rw[e3,y]
  |true=>
  rw[d7,cond_true,Tv]at J;obtain⟨H,rfl⟩:=XX J;simp only[Zs]at H;obtain⟨⟨⟨⟨⟨⟨⟨⟨hv,I⟩,W⟩,a1⟩,u⟩,E⟩,_⟩,b6⟩,c7⟩:=H;have hv:=Zl hv;have a1:=Zl a1;have u:=Zl u;have E:=Zl E;have I:b.mp=false:=by simpa using I
  have W:b.fz=false:=by simpa using W
  have b6:=W7 b6;have c7:=W7 c7;unfold lim at b6;obtain⟨b2,g,q,M,es,a2,_,N,c3⟩:=hs.Rh;rw[hb]at a2;cases a2;obtain⟨rfl,C,T,hC,hd⟩:=c3 hv.symm;obtain⟨C2,V,b7,b9⟩:=(hI.RH id b hb).cells I;rw[hC]at V;cases V;obtain⟨hq,y,L⟩:=hd.resolve_right (fun h0=>by omega);simp only[YJ,Yg]at hq y;subst hq;have d0:∀c∈b.ch,c.length=z.length:=by
   intro c e4;obtain⟨k,U⟩:=ZB.1 e4;rw[(b9 k c U).1,u]
  rw[u]at y b7;have R:w.ownsRow 0 e z.length (.slice (some ⟨μ id,0,none⟩) l M) l (C.toList.take (l*z.length)):=by
   refine⟨?_,.inr ⟨μ id,M,C,rfl,Zw _,by rw[hC,E],N,L,y.symm,rfl⟩⟩;rw[ZX,YG (xs:=C),<-y];exact Yy (Zn _ N)
  have b8:∀(v':Value) (w':World) (g' F:Nat) (B:Array Value) (f:List Value),(execOp ρ o).run P w=.ok (.value v') w'->v'=.slice (some ⟨g',0,none⟩) (l+m.length) F->w'.heap[g']? =some (.cells B e (0,0))->
    l+m.length<=F->F<=maxLen->B.size=F*z.length->B.toList.take ((l+m.length)*z.length)=C.toList.take (l*z.length)++f->XB (XE w O μ h) f m.flatten->
    w.heap.size<=w'.heap.size->(∀k,k<w.heap.size->k≠μ id->w'.heap[k]? =w.heap[k]?)->(g'=μ id\/w.heap.size<=g')->w'.os=w.os->w'.tape=w.tape->w'.output=w.output->
    V0 O w μ h n ((execOp ρ o).run P w) ⟨.one (.own id (XM+1) 0 (l+m.length)),[],[(id,{b with XM:=XM+1,ch:=b.ch++m})],id::e1⟩:=by
   intro v' w' g' F B f a4 c4 b0 a5 a8 a3 Tx a f0 d5 e5 e7 f1 e8;obtain⟨hm,Q⟩:=Rj (w':=w') (g':=g') (C':=B) (b':={b with XM:=XM+1,ch:=b.ch++m}) hI hb I I W (by rw[hC,E]:w.heap[μ id]? =some (.cells C b.ty (0,0))) (by rw[b0,E]) f0 d5 e5 (by simp only[];omega) (fun e=>by simp only[]at e;omega) e7 f1 e8;refine⟨v',w',_,.inl a4,?_,Q ?_,hm⟩
   ·subst c4;refine XE.own id (XM+1) 0 (l+m.length) _ _ _ _ (if_pos rfl) (Ze _) a5 fun _=>⟨by simp,B,e,by simpa using b0,.inl ⟨by simp,?_,a8⟩⟩
    simp only[Yg,u];exact a3.symm
   ·refine Wr.OI I ⟨B,by simp only[if_true];rw[b0,E],?_,fun k ck U=> ?_⟩
    ·simp only[Zm,a1,u];rw[a3];exact Zn _ a5
    ·have d1:ck.length=z.length:=by
      rcases ZW.1 (Zk U)with h1|h1
      ·exact d0 ck h1
      ·exact X ck h1
     refine⟨by rw[d1,<-u],fun j d hj=> ?_⟩;have f4:j<z.length:=by have:=(Zf.1 hj).1;omega
     have f6:k<l+m.length:=by have:=(Zf.1 U).1;simp at this;omega
     have d6:k*z.length+j<(l+m.length)*z.length:=by
      have:=Zn z.length (show k+1<=l+m.length by omega);rw[ZG]at this;omega
     have a9:∀v,(C.toList.take (l*z.length)++f)[k*z.length+j]? =some v->B[k*z.length+j]? =some v:=by
      intro v Z;rw[<-Tx,Z8,if_pos d6]at Z;simpa using Z
     have f2:(C.toList.take (l*z.length)).length=l*z.length:=by
      rw[ZX,YG (xs:=C),<-y];exact Yy (Zn _ N)
     show∃v,B[k*b.sz+j]? =some v/\_;rw[show k*b.sz+j=k*z.length+j by rw[u]];by_cases f5:k<l
     ·rw[ZA (by omega)]at U;obtain⟨v,Z,S⟩:=(b9 k ck U).2 j d hj;rw[u]at Z;have e9:k*z.length+j<l*z.length:=by
       have:=Zn z.length (show k+1<=l by omega);rw[ZG]at this;omega
      refine⟨v,a9 v ?_,S.mono hm⟩;rw[ZA (by omega),Z8,if_pos e9];simpa using Z
     ·rw[ZJ (by omega)]at U;have hf:=Uw _ X _ ck j d U hj;obtain⟨v,Z,S⟩:=a.get _ _ hf;refine⟨v,a9 v ?_,S.mono hm⟩;have d3:l*z.length<=k*z.length:=Zn _ (by omega);rw[ZJ (by omega),f2,<-Z,a1];congr 1;rw[Nat.sub_mul];omega
  rcases b4 with⟨ex,rfl⟩|⟨ad,c,f,ex,a,G⟩
  ·refine b8 _ w (μ id) M C [] (Rv s x t ρ o ho (by rw[es,ex];exact run_append_owned_none w 0 t o.type e i z.length ht hi _ l _ R)) rfl (by rw[hC,E]) (by simpa using N) L y.symm (by simp) .nil (Ze _) (fun _ _ _=>rfl) (.inl rfl) rfl rfl rfl
  ·have b3:f.length=m.length*z.length:=by rw[a.length,c1]
   obtain⟨v',w',K,c2,A,b1,a7⟩:=run_append_own_at (P:=P) w 0 t o.type e i zv z.length i.bytes ht hi e0 a0.symm rfl (by rw[d9,a0]) d8 _ l _ R ad m.length c f b3 G (cy a)
    (by unfold maxLen;omega) b6 (Zw _)
   have a4:=Rv (P:=P) (w:=w) s x t ρ o ho (by rw[es,ex];exact K);rcases c2.2 with⟨h1,_⟩|⟨g',F,B,rfl,_,b0,a5,a8,a3,Tx⟩
   ·have:=(b1.1 h1).1;simp at this
   ·refine b8 _ w' g' F B f a4 rfl b0 a5 a8 a3 Tx a A.size (fun k U e6=>A.block k U (by simp[Value.ownBlock];exact e6)) ?_ A.os A.tape A.output;rcases a7 with h1|h1
    ·left;simpa[Value.ownBlock]using h1
    ·right;have :g'=w.heap.size:=by simpa[Value.ownBlock]using h1
     omega
 ·simp at J
end
end Go.Ev
