/- Operations on maps whose keys are rows of integers. -/
import Derived.Test.YtidginchkjhobaaGreatEvHeap
import Derived.MapKept
import Derived.WideKeyRuns
namespace Go.Ev
section
variable {P:Program}{O:BS}{w:World}{μ:Nat->Nat}{h:HF}{n:Nat}
theorem fY {t:TypeId}{m}{k}(a:kl P t=some (m,k)):∃e i,P.underlying t=some (.array m e)/\P.underlying e=some (.int k)/\P.info? e=some i/\i.size=1:=by
 unfold kl at a;split at a
 ·rename_i g e d;split at a<;>simp only[Zb,reduceCtorEq,Zq]at a;rename_i f b c;obtain⟨rfl,rfl⟩:=a
  simp_all [Wv]
 ·simp at a
theorem P9 {t:TypeId}{d:TypeDesc}(a:P.underlying t=some d):(underlying t).run P w=.ok d w:=by simp[underlying,a]
theorem QM (b:Bool)(t e:TypeId)(m:Nat)(k:IntKind)(i:TypeInfo)(d:P.underlying t=some (.array m e))(h:P.underlying e=some (.int k))(l:P.info? e=some i)(p:i.size=1)(as:U')(o:as.length=m):
  (Instr.checkKey b 10000 t (.agg (as.map (Value.int k)).toArray)).run P w=.ok () w:=by
 rw[Instr.checkKey];simp only[Sem.run_bind,P9 d,Result.andThen_ok];simp only[Std.Legacy.Range.forIn_eq_forIn_range',Std.Legacy.Range.size,Nat.sub_zero,Nat.add_one_sub_one,Nat.div_one];have g:P.cellsOf e=1:=by grind [Program.cellsOf]
 have a:∀j∈List.range' 0 m,j<as.length:=fun j n=>by
  grind
 generalize List.range' 0 m=is at a;induction is with
 |nil=>simp
 |cons s is q=>
  have f:s<as.length:=a s (by simp);have c:(Instr.checkKey b 9999 e (.int k as[s])).run P w=.ok () w:=by
   rw[Instr.checkKey]
   simp_all [P9]
  simp_all [run_sizeOf,Oa]
theorem jh (t e:TypeId)(m:Nat)(k:IntKind)(i:TypeInfo)(d:P.underlying t=some (.array m e))(g:P.underlying e=some (.int k))(c:P.info? e=some i)(j:i.size=1)(as a:U')(f:as.length=m)(h:as.length=a.length):
  (Op.equal t (.agg (as.map (Value.int k)).toArray) (.agg (a.map (Value.int k)).toArray)).run P w=.ok (as==a) w:=by
 have b:P.cellsOf e=1:=by grind [Program.cellsOf]
 show(Op.equalIn (9999+1) t _ _).run P w=_;rw[run_equalIn_array w 9999 _ _ d c,b,List.range_eq_range']
 grind [Ps]
def OI (w:World)(O:BS)(μ:Nat->Nat)(h:HF)(b:Xx)(e:MapEntry)(c:Y'):Prop:=
 ∃kv xv:List Value,e.key=.agg kv.toArray/\aQ (Nat.beq b.ty 1) e.val xv/\kv.length=b.sz/\XE (XH w O μ h) (kv++xv) c
theorem Wx.map {id}{b}(d:Wx w O μ h id b)(f:b.mp=true)(e:Nat.beq b.ty 2=false):∃(c:Array MapEntry) (a:Nat),w.heap[μ id]? =some (.map c a)/\(b.XW=0/\vz c.toList a)/\XE (OI w O μ h b) c.toList b.ch:=by
 unfold Wx at d;rw[f,if_pos rfl,e,if_neg (by simp)]at d;exact d
theorem Wx.of_map {id}{b}(f:b.mp=true)(d:Nat.beq b.ty 2=false)(e:∃(c:Array MapEntry) (a:Nat),w.heap[μ id]? =some (.map c a)/\(b.XW=0/\vz c.toList a)/\XE (OI w O μ h b) c.toList b.ch):Wx w O μ h id b:=by
 unfold Wx;rw[f,if_pos rfl,d,if_neg (by simp)];exact e
theorem OV (t e:TypeId)(m:Nat)(k:IntKind)(i:TypeInfo)(H:P.underlying t=some (.array m e))(E:P.underlying e=some (.int k))(F:P.info? e=some i)(G:i.size=1)(b:Xx)(B:b.sz=m)
  (o:Y') (s:List Value) (n:XE (XH w O μ h) s o) (A:o.length=m):∀(a:List MapEntry) (ch:K') (j:Nat) (r:Option (Nat×Y')),XE (OI w O μ h b) a ch->SP k m o ch j=some r->
   (r=none/\(Instr.findAsking t (.agg s.toArray) a j).run P w=.ok none w)\/
   (∃q l c,r=some (j+q,c)/\a[q]? =some l/\ch[q]? =some c/\(Instr.findAsking t (.agg s.toArray) a j).run P w=.ok (some (j+q,l.val)) w/\l.key=.agg s.toArray)
 |[],ch,j,r,ha,hf=>by
  cases ha
  simp_all [SP,Instr.findAsking]
 |l::a,ch,j,r,ha,hf=>by
  cases ha with
  |@cons _ c _ J z g=>
  obtain⟨K,L,M,U,V,N⟩:=z;simp only[SP]at hf;have d:=N.take m;rw[List.take_append_of_le_length (by omega),Ze (by omega)]at d;cases p:Wl k o (c.take m)with
  |none=>simp[p]at hf
  |some T=>
  obtain⟨as,u,rfl,rfl,S,rfl⟩:=Nq p n d;have y:as.length=m:=by grind
  have hE:=jh (P:=P) (w:=w) t e m k i H E F G as u y S;cases f:(as==u)with
  |true=>
   simp only[p,f,Zb]at hf;subst hf;right;have x:as=u:=by simpa using f
   refine⟨0,l,c,by simp,rfl,rfl,?_,by rw[M,x]⟩
   simp_all [Instr.findAsking]
  |false=>
   simp only[p,f]at hf;have step:(Instr.findAsking t (.agg (as.map (Value.int k)).toArray) (l::a) j).run P w=(Instr.findAsking t (.agg (as.map (Value.int k)).toArray) a (j+1)).run P w:=by
    simp_all [Instr.findAsking]
   rcases OV t e m k i H E F G b B o _ n A a J (j+1) r g hf with⟨C,D⟩|⟨q,v,I,C,D,Q,W,R⟩
   ·grind
   ·right;refine⟨q+1,v,I,by rw[C];congr 2;omega,by simpa using D,by simpa using Q,?_,R⟩
    grind
theorem bU (t e:TypeId)(m)(b:P.underlying t=some (.array m e))(x)(a:List MapEntry):(Instr.findKey t x a).run P w=(Instr.findAsking t x a).run P w:=
 by grind [run_findKey_eq]
theorem cP {k}{a}{d}(c:(Wl k a a).isSome=true)(f:XE (XH w O μ h) d a):∃as:U',d=as.map (Value.int k):=by
 cases e:Wl k a a with
 |none=>rw[e]at c;cases c
 |some b=>
  grind [Nq]
theorem oL {a}{v}{e}{c}{d}(g:aQ a v e)(f:XE (XH w O μ h) e c)(b:zK a c=some d):Ua w O μ h v d/\d.plain=true:=by
 unfold zK at b;cases a with
 |true=>
  simp only[cond_true,Zb]at b;subst b;exact⟨⟨e,g,f⟩,rfl⟩
 |false=>
  simp only[cond_false]at b;subst g;cases f with
  |@cons _ x _ c i j=>
   cases j;simp only[Zb]at b;subst b;exact⟨i,rfl⟩
theorem dE (a):Nat.beq (vi a) 2=false:=by cases a<;>rfl
theorem vh (a):Nat.beq (vi a) 1=a:=by cases a<;>rfl
theorem cells_one {v:Value}(a:v.oneCell'=true):v.cells.toList=[v]:=by
 have :v.cells=#[v]:=by cases v<;>first |rfl|simp[Value.oneCell']at a
 rw[this]
theorem vF {e:TypeId}{a:Bool}{i:TypeInfo}{c:Value}(b:Pj P e=some a)(d:P.info? e=some i)(f:i.zero=some c):aQ a c c.cells.toList:=by
 unfold Pj at b;simp only[d,f]at b;split at b
 ·simp_all [aQ,Value.cells]
 ·simp_all [aQ,cells_one]
 grind
theorem sU {a b}{c d}(e:Ua w O μ h a c)(f:Ua w O μ h b d):XF w O μ h (.tuple #[a,b]) (.Wd [c,d]):=⟨[a,b],rfl,.cons e (.cons f .nil)⟩
theorem sy (t:TypeId)(a)(b)(p:Operand->Value)(o)(m:o.op=.makeMap t none)(r)(d:Sj a b n []=some r)(l:h n=none)(f:X1 w O μ h):V5 O w μ h n ((execOp p o).run P w) r:=by
 simp only[Sj,Zb]at d;subst d;obtain⟨j,c⟩:=QZ (w':=w.alloc (.map #[] 0)) (n:=n) f l ⟨false,0,a,[],true,vi b⟩ (by simp) (fun k i=>RowKit.Below.heap_alloc _ _ _ i) rfl rfl rfl;refine⟨.map (some w.heap.size),w.alloc (.map #[] 0),_,.inl ?_,?_,c ?_,j⟩
 ·simp only[execOp,m];exact Ur (by simp[Instr.makeMap,newObj,go_sem];rfl)
 ·have:=XH.mp (w:=w.alloc (.map #[] 0)) (O:=O) (μ:=fun id=>if id=n then w.heap.size else μ id) (h:=fun x=>if x=n then some ⟨false,0,a,[],true,vi b⟩else h x) n ⟨false,0,a,[],true,vi b⟩ (if_pos rfl) rfl;simp only[if_true]at this;exact this
 ·refine Wx.of_map rfl (dE b) ⟨#[],0,?_,⟨rfl,.nil,fun e g=>by simp at g⟩,.nil⟩
  grind [heap_alloc_new]
theorem vP (t L e U:TypeId)(m:Nat)(k:IntKind)(i:TypeInfo)(B K:Bool)(z:N')(x y:Operand)(g:Operand->Value)(o:Oper)(ho:o.op=.lookup t x y K)(ht:P.underlying t=some (.map L e))
  (hk:P.underlying L=some (.array m U)) (he:P.underlying U=some (.int k)) (hi:P.info? U=some i) (hs:i.size=1) (a3:Pj P e=some B) (hz:zeroOf P e=some z)
  (dx dy:DV) (hx:XF w O μ h (g x) dx) (hy:XF w O μ h (g y) dy) (r:Vk) (f:Tl m k B z K h [dx,dy]=some r) (hI:X1 w O μ h):V5 O w μ h n ((execOp g o).run P w) r:=by
 unfold Tl at f;split at f
 ·rename_i id kc a0;obtain⟨rfl,rfl⟩:=a0;cases X:h id with
  |none=>simp[X]at f
  |some b=>
  simp only[X,bn]at f;obtain⟨hc,f⟩:=Wq f;simp only[Zs]at hc;obtain⟨⟨⟨⟨a2,G⟩,D⟩,H⟩,F⟩:=hc;have G:=Zl G;have D:=Zl D;have H:=Zl H;cases hf:SP k m kc b.ch 0 with
  |none=>simp[hf]at f
  |some q=>
  simp only[hf]at f;cases j:xw m B z q with
  |none=>simp[j]at f
  |some V=>
  simp only[j,Zb]at f;subst f;obtain⟨W,a5,hE,_,s⟩:=(hI.RV id b X).map a2 (by grind [dE]);obtain⟨kv,ey,E⟩:=hy;obtain⟨as,b0⟩:=cP F E;have a9:as.length=m:=by have:=E.length;grind
  have T:g x=.map (some (μ id)):=by
   have S:XH w O μ h (g x) (.mp id):=hx;generalize g x=v at S;cases S with
   |mp _ _ _ _=>rfl
  have N:∀em,(Instr.checkKey em 10000 L (g y)).run P w=.ok () w:=fun em=>by
   grind [QM]
  obtain⟨iz,zv,a1,a4,_,_,J,I⟩:=Td hz;have Q:∀a,(Instr.findAsking L (.agg kv.toArray) W.toList 0).run P w=.ok a w->(Instr.findKey L (g y) W.toList).run P w=.ok a w:=fun a ha=>by
   grind [bU]
  have M:∀(v:Value) (l:Bool),(Instr.lookup t (g x) (g y) K).run P w=.ok (if K then .tuple #[v,.bool l]else v) w->l=q.isSome->Ua w O μ h v V->V5 O w μ h n ((execOp g o).run P w) ⟨bif K then .Wd [V,.one (.p (.bool q.isSome))]else V,[],[],[id]⟩:=by
   intro v l d R A;refine SF (v:=if K then .tuple #[v,.bool l]else v) hI ?_ ?_
   ·grind [execOp,Ur]
   ·cases K with
    |true=>exact sU A (by rw[R];exact XH.p _ _ (.bool _))
    |false=>exact XF.YR A
  rcases OV (P:=P) L U m k i hk he hi hs b G kc kv E D W.toList b.ch 0 q s hf with⟨rfl,d⟩|⟨qi,en,c,rfl,Z,Y,d,_⟩
  ·have C:=Q _ d;refine M zv false ?_ rfl ?_
   ·simp[Instr.lookup,P9 ht,T,MapKept.run_getObj_map hE,N,C,J,Result.andThen]
   ·exact(oL (vF a3 a1 a4) (I w O μ h) j).1
  ·have C:=Q _ d;refine M en.val true ?_ rfl ?_
   ·simp[Instr.lookup,P9 ht,T,MapKept.run_getObj_map hE,N,C,Result.andThen]
   ·obtain⟨a7,u,a6,a8,h1,h2,h3,h4⟩:=s.get qi c Y;rw[Z]at u;cases u;have:=h4.drop m;rw[List.drop_append_of_le_length (by omega),Zo (by omega),ZB]at this;rw[H,vh]at h2;exact(oL h2 this j).1
 ·simp at f
theorem Bh {w'}(j:X1 w O μ h){id}{b b'}{E es':Array MapEntry}{p clk'}(o:h id=some b)(R:b.mp=true)(H:b'.mp=true)(r:b.fz=false)(B:b'.XW=b.XW)(K:b'.sz=b.sz)
  (Q:w.heap[μ id]? =some (.map E p)) (F:w'.heap[μ id]? =some (.map es' clk')) (m:w'.heap.size=w.heap.size) (f:∀k,k≠μ id->w'.heap[k]? =w.heap[k]?) (t:w'.os=w.os) (v:w'.tape=w.tape) (u:w'.output=w.output):
  WL O w μ h w' μ (fun x=>if x=id then some b' else h x)/\(Wx w' O μ (fun x=>if x=id then some b' else h x) id b'->X1 w' O μ (fun x=>if x=id then some b' else h x)):=by
 have l:Live O μ h (μ id):=.inr ⟨id,b,o,r,rfl⟩;have s:∀a x,h a=some x->a≠id->μ a≠μ id:=fun a x d J e=>J (j.inj a id x b d o e)
 have n:WL O w μ h w' μ (fun x=>if x=id then some b' else h x):=by
  refine⟨t,v,u,⟨by omega,fun k g G=>f k fun e=>G (e▸l),fun k g=> ?_⟩,fun k g=>f k fun e=>j.Rl id b o (e▸g),fun a x d=> ?_,fun a x d I=>rfl⟩
  ·rcases g with g|⟨a,RV,hid,hf,q⟩
   ·exact .inl (.inl g)
   ·by_cases e:a=id
    ·grind
    ·simp only[e,if_false]at hid;exact .inl (.inr ⟨a,RV,hid,hf,q⟩)
  grind
 refine⟨n,fun P=>⟨fun a x d=> ?_,fun C D x y d L q=> ?_,fun a x d=> ?_,fun k g=>by rw[m];exact j.lt k g⟩⟩
 ·by_cases e:a=id
  ·grind
  ·simp only[e,if_false]at d;exact(j.RV a x d).mono n (f _ (s a x d e))
 ·have c:∀i x,(if i=id then some b' else h i)=some x->∃y,h i=some y:=fun i x d=>by
   grind
  obtain⟨M,z⟩:=c C x d;obtain⟨N,A⟩:=c D y L;exact j.inj C D M N z A q
 ·by_cases e:a=id
  ·subst e;exact j.Rl a b o
  ·simp only[e,if_false]at d;exact j.Rl a x d
theorem mj (k:IntKind)(as:U'):Instr.sameBits 10000 (.agg (as.map (Value.int k)).toArray) (.agg (as.map (Value.int k)).toArray)=true:=by
 simp only[Instr.sameBits,beq_self_eq_true,Bool.true_and,ZH];intro q b;have :∀(l:List Value),(∀v∈l,∃a,v=.int k a)->∀q∈l.zip l,Instr.sameBits 9999 q.1 q.2=true:=by
  intro l;induction l with
  |nil=>intro _ q b;simp at b
  |cons v l d=>
   intro c q b;simp only[List.zip_cons_cons,Zk]at b;rcases b with rfl|b
   ·obtain⟨a,rfl⟩:=c v (by simp);simp[Instr.sameBits]
   grind
 grind
theorem XE.set {a b:Type}{R:a->b->Prop}{c}{d}(g:XE R c d)(q)(x)(y)(h:R x y):XE R (c.set q x) (d.set q y):=by
 induction g generalizing q with
 |nil=>simpa using XE.nil
 |cons e f i=>cases q with
  |zero=>exact .cons h f
  |succ q=>exact .cons e (i q)
theorem bf {a:Type}(f:a->a):∀(l:List a) (q:Nat) (x:a),l[q]? =some x->l.modify q f=l.set q (f x)
 |[],q,x,h=>by simp at h
 |y::l,0,x,h=>by simp at h;subst h;rfl
 |y::l,q+1,x,h=>by
  simp only[List.modify_succ_cons,YK];rw[bf f l q x (by simpa using h)]
theorem sF {a:Type}:∀(l:List a) (q:Nat) (x:a),l[q]? =some x->l.set q x=l
 |[],q,x,h=>by simp at h
 |y::l,0,x,h=>by simp at h;subst h;rfl
 |y::l,q+1,x,h=>by
  simp only[YK];rw[sF l q x (by simpa using h)]
theorem B7 {l d:List MapEntry}{a}(e:l.map (·.born)=d.map (·.born))(c:vz l a):vz d a:=by
 refine⟨?_,fun x h=> ?_⟩
 ·have g:(l.map (·.born)).Pairwise (·≠·):=List.pairwise_map.2 c.1
  grind
 ·have :x.born∈l.map (·.born):=by grind
  obtain⟨y,f,b⟩:=ZM.1 this;rw[<-b];exact c.2 y f
theorem mc (t Y e te:TypeId)(m b1:Nat)(k:IntKind)(i:TypeInfo)(agg:Bool)(x y v:Operand)(g:Operand->Value)(o:Oper)(ho:o.op=.mapUpdate t x y v)(ht:P.underlying t=some (.map Y e))
  (hk:P.underlying Y=some (.array m te)) (he:P.underlying te=some (.int k)) (hi:P.info? te=some i) (hs:i.size=1)
  (dx dy dv:DV) (hx:XF w O μ h (g x) dx) (hy:XF w O μ h (g y) dy) (hv:XF w O μ h (g v) dv) (r:Vk) (p:VK m k agg b1 h [dx,dy,dv]=some r) (hI:X1 w O μ h):V5 O w μ h n ((execOp g o).run P w) r:=by
 unfold VK at p;split at p
 ·rename_i id kc b4 a9;obtain⟨rfl,rfl,rfl⟩:=a9;cases hb:h id with
  |none=>simp[hb]at p
  |some b=>
  simp only[hb]at p;cases G:dv.cells with
  |none=>simp[G]at p
  |some xc=>
  simp only[G]at p;obtain⟨Z,p⟩:=Wq p;simp only[Zs]at Z;obtain⟨⟨⟨⟨⟨⟨⟨F,R⟩,V⟩,S⟩,_⟩,W⟩,b2⟩,T⟩:=Z;have V:=Zl V;have S:=Zl S;have W:=Zl W;have R:b.fz=false:=by simpa using R
  obtain⟨X,M,hE,⟨b0,j⟩,z⟩:=(hI.RV id b hb).map F (by grind [dE]);obtain⟨H,ey,A⟩:=hy;obtain⟨as,b6⟩:=cP T A;have b5:as.length=m:=by have:=A.length;grind
  have a8:g x=.map (some (μ id)):=by
   have a7:XH w O μ h (g x) (.mp id):=hx;generalize g x=v at a7;cases a7 with
   |mp _ _ _ _=>rfl
  have a0:∀em,(Instr.checkKey em 10000 Y (g y)).run P w=.ok () w:=fun em=>by
   grind [QM]
  have a4:∀a,(Instr.findAsking Y (.agg H.toArray) X.toList 0).run P w=.ok a w->(Instr.findKey Y (g y) X.toList).run P w=.ok a w:=fun a N=>by
   grind [bU]
  have C:=hv.cells G;have K:aQ (Nat.beq b.ty 1) (g v) (g v).cells.toList:=by
   rw[W,vh];cases dv with
   |one l=>
    have :agg=false:=by grind [DV.isAgg]
    subst this;simp only[aQ,ZC,if_false];exact cells_one (XH.one hv)
   |agg cs=>
    have :agg=true:=by grind [DV.isAgg]
    subst this;obtain⟨xs,ev,_⟩:=hv
    simp_all [aQ,Value.cells]
   |Wd ds=>simp[DV.cells]at G
  have J:H.length=b.sz:=by grind
  have L:∀(es':Array MapEntry) (clk':Nat) (D:K'),(Instr.mapUpdate t (g x) (g y) (g v)).run P w=.ok () {w with heap:=w.heap.setIfInBounds (μ id) (.map es' clk')}->vz es'.toList clk'->
    (∀w' I h',(∀u d,XH w O μ h u d->XH w' O I h' u d)->XE (OI w' O I h' b) es'.toList D)->V5 O w μ h n ((execOp g o).run P w) ⟨.Wd [],[],[(id,{b with ch:=D})],[id]⟩:=by
   intro es' clk' D s E a3;have a6:μ id<w.heap.size:=(Yd.1 hE).1;obtain⟨B,a5⟩:=Bh (w':={w with heap:=w.heap.setIfInBounds (μ id) (.map es' clk')}) (b':={b with ch:=D}) (es':=es') (clk':=clk') hI hb F F R rfl rfl hE (by simp[a6]) (by simp)
    (fun q hq=>by simp[Ne.symm hq]) rfl rfl rfl
   refine⟨undef,_,μ,.inr ⟨?_,rfl⟩,⟨[],rfl,.nil⟩,a5 (Wx.of_map F (by grind [dE]) ⟨es',clk',by simp[a6],⟨b0,E⟩,a3 _ _ _ fun u d p=>p.mono B⟩),B⟩
   simp_all [execOp]
  unfold iG at p;cases hf:SP k m kc b.ch 0 with
  |none=>simp[hf]at p
  |some q=>
  simp only[hf]at p;rcases OV (P:=P) Y te m k i hk he hi hs b V kc H A S X.toList b.ch 0 q z hf with⟨rfl,s⟩|⟨qi,en,c,rfl,a1,b7,s,b3⟩
  ·simp only[Zb]at p;subst p;have Q:=a4 _ s;refine L (X.push {key:=g y,val:=g v,born:=M}) (M+1) _ ?_ ?_ ?_
   ·simp[Instr.mapUpdate,P9 ht,a8,MapKept.run_getObj_map hE,a0,Q,MapKept.run_setObj_map _ hE,Result.andThen]
   ·rw[Array.toList_push];refine⟨List.pairwise_append.2 ⟨j.1,by simp,fun a N c Z=> ?_⟩,fun a N=> ?_⟩
    ·simp at Z;subst Z;have:=j.2 a N;simp;omega
    ·rcases ZS.1 N with N|N
     ·have:=j.2 a N;omega
     grind
   ·intro w' I h' f;rw[Array.toList_push];refine XE.append (z.imp fun a c ⟨H,xv,g1,g2,g3,g4⟩=>⟨H,xv,g1,g2,g3,g4.imp f⟩) (.cons ⟨H,(g v).cells.toList,ey,K,J,?_⟩ .nil);exact(A.imp f).append (C.imp f)
  ·simp only[Yb,Zb]at p;subst p;have Q:=a4 _ s;have U:(Instr.keyThatStays en.key (g y)).run P w=.ok (g y) w:=by
    simp_all [Instr.keyThatStays,mj]
   have a2:X[qi]? =some en:=by simpa using a1
   refine L (X.modify qi fun a=>{a with key:=g y,val:=g v}) M _ ?_ ?_ ?_
   ·simp[Instr.mapUpdate,P9 ht,a8,MapKept.run_getObj_map hE,a0,Q,MapKept.run_setObj_map _ hE,Result.andThen,a2,U]
   ·refine B7 ?_ j
    grind [bf,List.map_set,sF]
   ·intro w' I h' f;rw[Array.toList_modify,bf _ _ _ _ a1];exact XE.set (z.imp fun a c ⟨H,xv,g1,g2,g3,g4⟩=>⟨H,xv,g1,g2,g3,g4.imp f⟩) qi _ _ ⟨H,(g v).cells.toList,ey,K,J,(A.imp f).append (C.imp f)⟩
 ·simp at p
theorem vQ (t C e:TypeId)(x:Operand)(j:Operand->Value)(o)(q:Array TypeId)(y:o.op=.call ⟨.builtin .len,#[x],q⟩)(z:q[0]? =some t)(A:P.underlying t=some (.map C e))(m)(B:XF w O μ h (j x) m)(r)
  (d:TR h [m]=some r) (p:X1 w O μ h):V5 O w μ h n ((execOp j o).run P w) r:=by
 unfold TR at d;split at d
 ·rename_i id g;simp only[ZG,and_true]at g;subst g;cases k:h id with
  |none=>simp[k]at d
  |some b=>
  simp only[k]at d;obtain⟨a,rfl⟩:=X4 d;rw[Zs]at a;obtain⟨a,c⟩:=a;have c:Nat.beq b.ty 2=false:=by simpa using c
  obtain⟨D,s,hE,_,f⟩:=(p.RV id b k).map a c;have l:j x=.map (some (μ id)):=by
   have i:XH w O μ h (j x) (.mp id):=B;generalize j x=v at i;cases i with
   |mp _ _ _ _=>rfl
  have u:=f.length;refine SF (v:=.int .i64 (Int.ofNat b.ch.length)) p ?_ (XF.int _ _);rw[<-u];simp[execOp,y,resolve,invoke,builtin,Builtin.len_,z,l,underlying,A,goInt,Sem.run_bind,Result.andThen,go_sem,MapKept.run_getObj_map hE]
 ·simp at d
end
