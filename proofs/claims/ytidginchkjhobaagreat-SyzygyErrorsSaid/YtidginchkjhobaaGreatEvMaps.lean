/- Operations on maps whose keys are rows of integers. -/
import Derived.Test.YtidginchkjhobaaGreatEvHeap
import Derived.MapKept
import Derived.WideKeyRuns
namespace Go.Ev
section
variable {P:Program}{O:BS}{w:World}{μ:Nat->Nat}{h:HF}{n:Nat}
theorem cU {t:TypeId}{m:Nat}{k:IntKind}(a:fS P t=some (m,k)):∃e i,P.underlying t=some (.array m e)/\P.underlying e=some (.int k)/\P.info? e=some i/\i.size=1:=by
 unfold fS at a;split at a
 ·rename_i h e f;split at a<;>simp only[Za,reduceCtorEq,Zo]at a;rename_i g d c;obtain⟨rfl,rfl⟩:=a;unfold Wn at c;cases b:P.info? e with
  |none=>simp[b]at c
  |some i=>exact⟨e,i,f,d,b,by simpa[b]using c⟩
 ·simp at a
theorem QT {t:TypeId}{d:TypeDesc}(a:P.underlying t=some d):(underlying t).run P w=.ok d w:=by simp[underlying,a]
theorem RR (b:Bool)(t e:TypeId)(m:Nat)(k:IntKind)(i:TypeInfo)(o:P.underlying t=some (.array m e))(f:P.underlying e=some (.int k))(g:P.info? e=some i)(n:i.size=1)(as:List Int)(q:as.length=m):
  (Instr.checkKey b 10000 t (.agg (as.map (Value.int k)).toArray)).run P w=.ok () w:=by
 show(Instr.checkKey b (9999+1) t _).run P w=_;rw[Instr.checkKey];simp only[Sem.run_bind,QT o,Result.andThen_ok];simp only[Std.Legacy.Range.forIn_eq_forIn_range',Std.Legacy.Range.size,Nat.sub_zero,Nat.add_one_sub_one,Nat.div_one];have l:P.cellsOf e=1:=by simp[Program.cellsOf,g,n]
 have a:∀j∈List.range' 0 m,j<as.length:=fun j d=>by
  rw[List.mem_range'_1]at d;omega
 generalize List.range' 0 m=is at a;induction is with
 |nil=>simp
 |cons s is p=>
  have h:s<as.length:=a s (by simp);have c:(Instr.checkKey b 9999 e (.int k as[s])).run P w=.ok () w:=by
   show(Instr.checkKey b (9998+1) e _).run P w=_;rw[Instr.checkKey];simp only[Sem.run_bind,QT f,Result.andThen_ok];rfl
  simp only[List.forIn_cons,Sem.run_bind,run_sizeOf w g,Result.andThen_ok,l,ZX,QU e k f as s _ (Zf h),c,Sem.run_pure];exact p fun j d=>a j (by simp[d])
theorem eY (t e:TypeId)(m:Nat)(k:IntKind)(i:TypeInfo)(h:P.underlying t=some (.array m e))(d:P.underlying e=some (.int k))(b:P.info? e=some i)(g:i.size=1)(as a:List Int)(j:as.length=m)(f:as.length=a.length):
  (Op.equal t (.agg (as.map (Value.int k)).toArray) (.agg (a.map (Value.int k)).toArray)).run P w=.ok (as==a) w:=by
 have c:P.cellsOf e=1:=by simp[Program.cellsOf,b,g]
 show(Op.equalIn (9999+1) t _ _).run P w=_;rw[run_equalIn_array w 9999 _ _ h b,c,List.range_eq_range'];have:=Qh (P:=P) (w:=w) 9998 e k d as a f m 0 (by omega);simpa using this
def Ps (w:World)(O:BS)(μ:Nat->Nat)(h:HF)(b:Xz)(e:MapEntry)(c:List DL):Prop:=
 ∃kv xv:List Value,e.key=.agg kv.toArray/\Pq (Nat.beq b.ty 1) e.val xv/\kv.length=b.sz/\XF (XL w O μ h) (kv++xv) c
theorem WJ.map {id:Nat}{b:Xz}(d:WJ w O μ h id b)(f:b.mp=true)(e:Nat.beq b.ty 2=false):∃(c:Array MapEntry) (a:Nat),w.heap[μ id]? =some (.map c a)/\(b.XX=0/\qf c.toList a)/\XF (Ps w O μ h b) c.toList b.ch:=by
 unfold WJ at d;rw[f,if_pos rfl,e,if_neg (by simp)]at d;exact d
theorem WJ.of_map {id:Nat}{b:Xz}(f:b.mp=true)(d:Nat.beq b.ty 2=false)(e:∃(c:Array MapEntry) (a:Nat),w.heap[μ id]? =some (.map c a)/\(b.XX=0/\qf c.toList a)/\XF (Ps w O μ h b) c.toList b.ch):WJ w O μ h id b:=by
 unfold WJ;rw[f,if_pos rfl,d,if_neg (by simp)];exact e
theorem PD (t e:TypeId)(m:Nat)(k:IntKind)(i:TypeInfo)(J:P.underlying t=some (.array m e))(G:P.underlying e=some (.int k))(H:P.info? e=some i)(I:i.size=1)(b:Xz)(E:b.sz=m)
  (o:List DL) (s:List Value) (g:XF (XL w O μ h) s o) (D:o.length=m):∀(d:List MapEntry) (ch:List (List DL)) (j:Nat) (r:Option (Nat×List DL)),XF (Ps w O μ h b) d ch->TU k m o ch j=some r->
   (r=none/\(Instr.findAsking t (.agg s.toArray) d j).run P w=.ok none w)\/
   (∃q n c,r=some (j+q,c)/\d[q]? =some n/\ch[q]? =some c/\(Instr.findAsking t (.agg s.toArray) d j).run P w=.ok (some (j+q,n.val)) w/\n.key=.agg s.toArray)
 |[],ch,j,r,ha,hf=>by
  cases ha;simp only[TU,Za]at hf;exact .inl ⟨hf.symm,by simp[Instr.findAsking]⟩
 |n::d,ch,j,r,ha,hf=>by
  cases ha with
  |@cons _ c _ L C l=>
  obtain⟨M,N,x,W,X,Q⟩:=C;simp only[TU]at hf;have f:=Q.take m;rw[Y6 (by omega),Zd (by omega)]at f;cases p:Wh k o (c.take m)with
  |none=>simp[p]at hf
  |some V=>
  obtain⟨as,u,rfl,rfl,U,rfl⟩:=P7 p g f;have B:as.length=m:=by have:=g.length;simp at this;omega
  have F:=eY (P:=P) (w:=w) t e m k i J G H I as u B U;cases a:(as==u)with
  |true=>
   simp only[p,a,Za]at hf;subst hf;right;have A:as=u:=by simpa using a
   refine⟨0,n,c,by simp,rfl,rfl,?_,by rw[x,A]⟩;simp only[Instr.findAsking,Sem.run_bind,x,F,Result.andThen_ok,a,if_true,Sem.run_pure,Yk]
  |false=>
   simp only[p,a]at hf;have step:(Instr.findAsking t (.agg (as.map (Value.int k)).toArray) (n::d) j).run P w=(Instr.findAsking t (.agg (as.map (Value.int k)).toArray) d (j+1)).run P w:=by
    simp only[Instr.findAsking,Sem.run_bind,x,F,Result.andThen_ok,a,Zz,if_false]
   rcases PD t e m k i J G H I b E o _ g D d L (j+1) r l hf with⟨y,z⟩|⟨q,v,K,y,z,R,S,T⟩
   ·exact .inl ⟨y,step.trans z⟩
   ·right;refine⟨q+1,v,K,by rw[y];congr 2;omega,by simpa using z,by simpa using R,?_,T⟩;rw[step,S];congr 3;omega
theorem NW (t e:TypeId)(m:Nat)(b:P.underlying t=some (.array m e))(x:Value)(a:List MapEntry):(Instr.findKey t x a).run P w=(Instr.findAsking t x a).run P w:=
 run_findKey_eq w (by rw[b]) x a
theorem av {k:IntKind}{a:List DL}{f:List Value}(e:(Wh k a a).isSome=true)(c:XF (XL w O μ h) f a):∃as:List Int,f=as.map (Value.int k):=by
 cases d:Wh k a a with
 |none=>rw[d]at e;cases e
 |some b=>
  obtain⟨as,i,g,_,_,_⟩:=P7 d c c;exact⟨as,g⟩
theorem jY {a:Bool}{v:Value}{f:List Value}{e:List DL}{d:DV}(c:Pq a v f)(g:XF (XL w O μ h) f e)(b:ux a e=some d):VJ w O μ h v d/\d.plain=true:=by
 unfold ux at b;cases a with
 |true=>
  simp only[cond_true,Za]at b;subst b;simp only[Pq,if_true]at c;exact⟨⟨f,c,g⟩,rfl⟩
 |false=>
  simp only[cond_false]at b;simp only[Pq,Zz,if_false]at c;subst c;cases g with
  |@cons _ x _ e i j=>
   cases j;simp only[Za]at b;subst b;exact⟨i,rfl⟩
theorem aN (a:Bool):Nat.beq (pS a) 2=false:=by cases a<;>rfl
theorem pR (a:Bool):Nat.beq (pS a) 1=a:=by cases a<;>rfl
theorem cells_one {v:Value}(a:v.oneCell'=true):v.cells.toList=[v]:=by
 have :v.cells=#[v]:=by cases v<;>first |rfl|simp[Value.oneCell']at a
 rw[this]
theorem ql {e:TypeId}{c:Bool}{i:TypeInfo}{d:Value}(b:Qc P e=some c)(g:P.info? e=some i)(h:i.zero=some d):Pq c d d.cells.toList:=by
 unfold Qc at b;simp only[g,h]at b;split at b
 ·rename_i j a;simp only[Za]at a b;subst a;subst b;simp[Pq,Value.cells]
 ·rename_i v _ a;simp only[Za]at a;subst a;split at b<;>simp only[Za,reduceCtorEq]at b;rename_i f;subst b;simp only[Pq,Zz,if_false];exact cells_one f
 ·rename_i a;cases a
theorem nw {a b:Value}{c d:DV}(e:VJ w O μ h a c)(f:VJ w O μ h b d):XB w O μ h (.tuple #[a,b]) (.XZ [c,d]):=⟨[a,b],rfl,.cons e (.cons f .nil)⟩
theorem mZ (t:TypeId)(a:Nat)(b:Bool)(p:Operand->Value)(o:Oper)(m:o.op=.makeMap t none)(r:Vc)(d:TA a b n []=some r)(l:h n=none)(f:X0 w O μ h):VF O w μ h n ((execOp p o).run P w) r:=by
 simp only[TA,Za]at d;subst d;obtain⟨j,c⟩:=R2 (w':=w.alloc (.map #[] 0)) (n:=n) f l ⟨false,0,a,[],true,pS b⟩ (by simp) (fun k i=>RowKit.Below.heap_alloc _ _ _ i) rfl rfl rfl;refine⟨.map (some w.heap.size),w.alloc (.map #[] 0),_,.inl ?_,?_,c ?_,j⟩
 ·simp only[execOp,m];exact Wy (by simp[Instr.makeMap,newObj,go_sem];rfl)
 ·have:=XL.mp (w:=w.alloc (.map #[] 0)) (O:=O) (μ:=fun id=>if id=n then w.heap.size else μ id) (h:=fun x=>if x=n then some ⟨false,0,a,[],true,pS b⟩else h x) n ⟨false,0,a,[],true,pS b⟩ (if_pos rfl) rfl;simp only[if_true]at this;exact this
 ·refine WJ.of_map rfl (aN b) ⟨#[],0,?_,⟨rfl,.nil,fun e g=>by simp at g⟩,.nil⟩;simp only[if_true];exact heap_alloc_new w _
theorem qy (t D e M:TypeId)(m:Nat)(k:IntKind)(i:TypeInfo)(j L:Bool)(z:List PL)(x y:Operand)(g:Operand->Value)(o:Oper)(ho:o.op=.lookup t x y L)(ht:P.underlying t=some (.map D e))
  (hk:P.underlying D=some (.array m M)) (he:P.underlying M=some (.int k)) (hi:P.info? M=some i) (hs:i.size=1) (a5:Qc P e=some j) (hz:zeroOf P e=some z)
  (dx dy:DV) (hx:XB w O μ h (g x) dx) (hy:XB w O μ h (g y) dy) (r:Vc) (f:UO m k j z L h [dx,dy]=some r) (hI:X0 w O μ h):VF O w μ h n ((execOp g o).run P w) r:=by
 unfold UO at f;split at f
 ·rename_i id kc S;simp only[ZJ,and_true]at S;obtain⟨rfl,rfl⟩:=S;cases hb:h id with
  |none=>simp[hb]at f
  |some b=>
  simp only[hb,Nn]at f;obtain⟨hc,f⟩:=X3 f;simp only[Zs]at hc;obtain⟨⟨⟨⟨a4,I⟩,F⟩,s⟩,H⟩:=hc;have I:=Zl I;have F:=Zl F;have s:=Zl s;cases hf:TU k m kc b.ch 0 with
  |none=>simp[hf]at f
  |some q=>
  simp only[hf]at f;cases l:rL m j z q with
  |none=>simp[l]at f
  |some X=>
  simp only[l,Za]at f;subst f;obtain⟨Z,a7,hE,_,A⟩:=(hI.QG id b hb).map a4 (by rw[s];exact aN j);obtain⟨kv,ey,G⟩:=hy;obtain⟨as,Q⟩:=av H G;have a0:as.length=m:=by have:=G.length;rw[Q]at this;simp at this;omega
  have W:g x=.map (some (μ id)):=by
   have V:XL w O μ h (g x) (.mp id):=hx;generalize g x=v at V;cases V with
   |mp _ _ _ _=>rfl
  have R:∀Y,(Instr.checkKey Y 10000 D (g y)).run P w=.ok () w:=fun Y=>by
   rw[ey,Q];exact RR Y D M m k i hk he hi hs as a0
  obtain⟨iz,zv,a3,a6,_,_,K,J⟩:=UG hz;have T:∀a,(Instr.findAsking D (.agg kv.toArray) Z.toList 0).run P w=.ok a w->(Instr.findKey D (g y) Z.toList).run P w=.ok a w:=fun a ha=>by
   rw[ey,NW D M m hk];exact ha
  have N:∀(v:Value) (u:Bool),(Instr.lookup t (g x) (g y) L).run P w=.ok (if L then .tuple #[v,.bool u]else v) w->u=q.isSome->VJ w O μ h v X->VF O w μ h n ((execOp g o).run P w) ⟨bif L then .XZ [X,.one (.p (.bool q.isSome))]else X,[],[],[id]⟩:=by
   intro v u d U C;refine TO (v:=if L then .tuple #[v,.bool u]else v) hI ?_ ?_
   ·simp only[execOp,ho];exact Wy d
   ·cases L with
    |true=>exact nw C (by rw[U];exact XL.p _ _ (.bool _))
    |false=>exact XB.Gb C
  rcases PD (P:=P) D M m k i hk he hi hs b I kc kv G F Z.toList b.ch 0 q A hf with⟨rfl,d⟩|⟨qi,en,c,rfl,a2,a1,d,_⟩
  ·have E:=T _ d;refine N zv false ?_ rfl ?_
   ·simp[Instr.lookup,QT ht,W,MapKept.run_getObj_map hE,R,E,K,Result.andThen]
   ·exact(jY (ql a5 a3 a6) (J w O μ h) l).1
  ·have E:=T _ d;refine N en.val true ?_ rfl ?_
   ·simp[Instr.lookup,QT ht,W,MapKept.run_getObj_map hE,R,E,Result.andThen]
   ·obtain⟨a9,B,a8,b0,h1,h2,h3,h4⟩:=A.get qi c a1;rw[a2]at B;cases B;have:=h4.drop m;rw[YT (by omega),Zm (by omega),ZF]at this;rw[s,pR]at h2;exact(jY h2 this l).1
 ·simp at f
theorem vU {w':World}(l:X0 w O μ h){id:Nat}{b b':Xz}{I es':Array MapEntry}{s clk':Nat}(n:h id=some b)(N:b.mp=true)(u:b'.mp=true)(t:b.fz=false)(F:b'.XX=b.XX)(A:b'.sz=b.sz)
  (K:w.heap[μ id]? =some (.map I s)) (L:w'.heap[μ id]? =some (.map es' clk')) (m:w'.heap.size=w.heap.size) (f:∀k,k≠μ id->w'.heap[k]? =w.heap[k]?) (v:w'.os=w.os) (B:w'.tape=w.tape) (z:w'.output=w.output):
  WD O w μ h w' μ (fun x=>if x=id then some b' else h x)/\(WJ w' O μ (fun x=>if x=id then some b' else h x) id b'->X0 w' O μ (fun x=>if x=id then some b' else h x)):=by
 have g:Live O μ h (μ id):=.inr ⟨id,b,n,t,rfl⟩;have p:∀a x,h a=some x->a≠id->μ a≠μ id:=fun a x c Q e=>Q (l.inj a id x b c n e)
 have o:WD O w μ h w' μ (fun x=>if x=id then some b' else h x):=by
  refine⟨v,B,z,⟨by omega,fun k j M=>f k fun e=>M (e▸g),fun k j=> ?_⟩,fun k j=>f k fun e=>l.Nt id b n (e▸j),fun a x c=> ?_,fun a x c P=>rfl⟩
  ·rcases j with j|⟨a,QG,hid,hf,r⟩
   ·exact .inl (.inl j)
   ·by_cases e:a=id
    ·subst e;left;rw[<-r];exact g
    ·simp only[e,if_false]at hid;exact .inl (.inr ⟨a,QG,hid,hf,r⟩)
  ·by_cases e:a=id
   ·subst e;rw[n]at c;cases c;refine⟨b',by simp,by omega,by rw[N,u],fun _=>⟨rfl,A,fun D T q=> ?_⟩⟩;rw[K]at q;cases q
   ·refine⟨x,by simp[e,c],Zh _,rfl,fun _=>⟨rfl,rfl,fun D T q=>⟨D,?_,rfl⟩⟩⟩;rw[f _ (p a x c e)];exact q
 refine⟨o,fun J=>⟨fun a x c=> ?_,fun G H x y c R r=> ?_,fun a x c=> ?_,fun k j=>by rw[m];exact l.lt k j⟩⟩
 ·by_cases e:a=id
  ·subst e;simp at c;subst c;exact J
  ·simp only[e,if_false]at c;exact(l.QG a x c).mono o (f _ (p a x c e))
 ·have d:∀i x,(if i=id then some b' else h i)=some x->∃y,h i=some y:=fun i x c=>by
   by_cases e:i=id
   ·subst e;exact⟨b,n⟩
   ·simp only[e,if_false]at c;exact⟨x,c⟩
  obtain⟨S,C⟩:=d G x c;obtain⟨U,E⟩:=d H y R;exact l.inj G H S U C E r
 ·by_cases e:a=id
  ·subst e;exact l.Nt a b n
  ·simp only[e,if_false]at c;exact l.Nt a x c
theorem im (k:IntKind)(as:List Int):Instr.sameBits 10000 (.agg (as.map (Value.int k)).toArray) (.agg (as.map (Value.int k)).toArray)=true:=by
 show Instr.sameBits (9999+1) _ _=true;simp only[Instr.sameBits,beq_self_eq_true,YF,ZW];intro q b;have :∀(l:List Value),(∀v∈l,∃a,v=.int k a)->∀q∈l.zip l,Instr.sameBits 9999 q.1 q.2=true:=by
  intro l;induction l with
  |nil=>intro _ q b;simp at b
  |cons v l f=>
   intro c q b;simp only[List.zip_cons_cons,Zj]at b;rcases b with rfl|b
   ·obtain⟨a,rfl⟩:=c v (by simp);simp[Instr.sameBits]
   ·exact f (fun x e=>c x (by simp[e])) q b
 exact this (as.map (Value.int k)) (fun v d=>by obtain⟨a,_,rfl⟩:=ZQ.1 d;exact⟨a,rfl⟩) q b
theorem XF.set {a b:Type}{R:a->b->Prop}{c:List a}{d:List b}(g:XF R c d)(q:Nat)(x:a)(y:b)(h:R x y):XF R (c.set q x) (d.set q y):=by
 induction g generalizing q with
 |nil=>simpa using XF.nil
 |cons e f i=>cases q with
  |zero=>exact .cons h f
  |succ q=>exact .cons e (i q)
theorem Ni {a:Type}(f:a->a):∀(l:List a) (q:Nat) (x:a),l[q]? =some x->l.modify q f=l.set q (f x)
 |[],q,x,h=>by simp at h
 |y::l,0,x,h=>by simp at h;subst h;rfl
 |y::l,q+1,x,h=>by
  simp only[List.modify_succ_cons,Y3];rw[Ni f l q x (by simpa using h)]
theorem Rt {a:Type}:∀(l:List a) (q:Nat) (x:a),l[q]? =some x->l.set q x=l
 |[],q,x,h=>by simp at h
 |y::l,0,x,h=>by simp at h;subst h;rfl
 |y::l,q+1,x,h=>by
  simp only[Y3];rw[Rt l q x (by simpa using h)]
theorem wJ {l f:List MapEntry}{a:Nat}(e:l.map (·.born)=f.map (·.born))(d:qf l a):qf f a:=by
 refine⟨?_,fun x g=> ?_⟩
 ·have c:(l.map (·.born)).Pairwise (·≠·):=List.pairwise_map.2 d.1;rw[e]at c;exact List.pairwise_map.1 c
 ·have :x.born∈l.map (·.born):=by rw[e];exact ZQ.2 ⟨x,g,rfl⟩
  obtain⟨y,h,b⟩:=ZQ.1 this;rw[<-b];exact d.2 y h
theorem ie (t S e te:TypeId)(m b3:Nat)(k:IntKind)(i:TypeInfo)(agg:Bool)(x y v:Operand)(g:Operand->Value)(o:Oper)(ho:o.op=.mapUpdate t x y v)(ht:P.underlying t=some (.map S e))
  (hk:P.underlying S=some (.array m te)) (he:P.underlying te=some (.int k)) (hi:P.info? te=some i) (hs:i.size=1)
  (dx dy dv:DV) (hx:XB w O μ h (g x) dx) (hy:XB w O μ h (g y) dy) (hv:XB w O μ h (g v) dv) (r:Vc) (p:Vf m k agg b3 h [dx,dy,dv]=some r) (hI:X0 w O μ h):VF O w μ h n ((execOp g o).run P w) r:=by
 unfold Vf at p;split at p
 ·rename_i id kc b4 a4;simp only[ZJ,and_true]at a4;obtain⟨rfl,rfl,rfl⟩:=a4;cases hb:h id with
  |none=>simp[hb]at p
  |some b=>
  simp only[hb]at p;cases J:dv.cells with
  |none=>simp[J]at p
  |some xc=>
  simp only[J]at p;obtain⟨hc,p⟩:=X3 p;simp only[Zs]at hc;obtain⟨⟨⟨⟨⟨⟨⟨I,X⟩,a1⟩,Y⟩,_⟩,D⟩,N⟩,Z⟩:=hc;have a1:=Zl a1;have Y:=Zl Y;have D:=Zl D;have X:b.fz=false:=by simpa using X
  obtain⟨es,U,hE,⟨b2,j⟩,B⟩:=(hI.QG id b hb).map I (by rw[D];exact aN agg);obtain⟨K,ey,z⟩:=hy;obtain⟨as,V⟩:=av Z z;have b1:as.length=m:=by have:=z.length;rw[V]at this;simp at this;omega
  have b0:g x=.map (some (μ id)):=by
   have a9:XL w O μ h (g x) (.mp id):=hx;generalize g x=v at a9;cases a9 with
   |mp _ _ _ _=>rfl
  have a2:∀em,(Instr.checkKey em 10000 S (g y)).run P w=.ok () w:=fun em=>by
   rw[ey,V];exact RR em S te m k i hk he hi hs as b1
  have a5:∀a,(Instr.findAsking S (.agg K.toArray) es.toList 0).run P w=.ok a w->(Instr.findKey S (g y) es.toList).run P w=.ok a w:=fun a F=>by
   rw[ey,NW S te m hk];exact F
  have E:=hv.cells J;have R:Pq (Nat.beq b.ty 1) (g v) (g v).cells.toList:=by
   rw[D,pR];cases dv with
   |one l=>
    have :agg=false:=by simpa[DV.isAgg]using N
    subst this;simp only[Pq,Zz,if_false];exact cells_one (XL.one hv)
   |agg cs=>
    have :agg=true:=by simpa[DV.isAgg]using N
    subst this;obtain⟨xs,ev,_⟩:=hv;simp only[Pq,if_true];rw[ev];simp[Value.cells]
   |XZ ds=>simp[DV.cells]at J
  have Q:K.length=b.sz:=by have:=z.length;omega
  have T:∀(es':Array MapEntry) (clk':Nat) (A:List (List DL)),(Instr.mapUpdate t (g x) (g y) (g v)).run P w=.ok () {w with heap:=w.heap.setIfInBounds (μ id) (.map es' clk')}->qf es'.toList clk'->
    (∀w' L h',(∀u d,XL w O μ h u d->XL w' O L h' u d)->XF (Ps w' O L h' b) es'.toList A)->VF O w μ h n ((execOp g o).run P w) ⟨.XZ [],[],[(id,{b with ch:=A})],[id]⟩:=by
   intro es' clk' A s G a3;have a8:μ id<w.heap.size:=(Ya.1 hE).1;obtain⟨C,a6⟩:=vU (w':={w with heap:=w.heap.setIfInBounds (μ id) (.map es' clk')}) (b':={b with ch:=A}) (es':=es') (clk':=clk') hI hb I I X rfl rfl hE (by simp[a8]) (by simp)
    (fun q hq=>by simp[Ne.symm hq]) rfl rfl rfl
   refine⟨undef,_,μ,.inr ⟨?_,rfl⟩,⟨[],rfl,.nil⟩,a6 (WJ.of_map I (by rw[show({b with ch:=A}:Xz).ty=b.ty from rfl,D];exact aN agg) ⟨es',clk',by simp[a8],⟨b2,G⟩,a3 _ _ _ fun u d p=>p.mono C⟩),C⟩;simp only[execOp,ho];rw[Sem.run_bind,s];rfl
  unfold eB at p;cases hf:TU k m kc b.ch 0 with
  |none=>simp[hf]at p
  |some q=>
  simp only[hf]at p;rcases PD (P:=P) S te m k i hk he hi hs b a1 kc K z Y es.toList b.ch 0 q B hf with⟨rfl,s⟩|⟨qi,en,c,rfl,W,b5,s,a7⟩
  ·simp only[Za]at p;subst p;have H:=a5 _ s;refine T (es.push {key:=g y,val:=g v,born:=U}) (U+1) _ ?_ ?_ ?_
   ·simp[Instr.mapUpdate,QT ht,b0,MapKept.run_getObj_map hE,a2,H,MapKept.run_setObj_map _ hE,Result.andThen]
   ·rw[Array.toList_push];refine⟨List.pairwise_append.2 ⟨j.1,by simp,fun a F c hc=> ?_⟩,fun a F=> ?_⟩
    ·simp at hc;subst hc;have:=j.2 a F;simp;omega
    ·rcases Yc.1 F with F|F
     ·have:=j.2 a F;omega
     ·simp at F;subst F;simp
   ·intro w' L h' f;rw[Array.toList_push];refine XF.append (B.imp fun a c ⟨K,xv,g1,g2,g3,g4⟩=>⟨K,xv,g1,g2,g3,g4.imp f⟩) (.cons ⟨K,(g v).cells.toList,ey,R,Q,?_⟩ .nil);exact(z.imp f).append (E.imp f)
  ·simp only[Z8,Za]at p;subst p;have H:=a5 _ s;simp only[Z8]at H;have a0:(Instr.keyThatStays en.key (g y)).run P w=.ok (g y) w:=by
    unfold Instr.keyThatStays;rw[a7,ey,V,im];simp
   have M:es[qi]? =some en:=by simpa using W
   refine T (es.modify qi fun a=>{a with key:=g y,val:=g v}) U _ ?_ ?_ ?_
   ·simp[Instr.mapUpdate,QT ht,b0,MapKept.run_getObj_map hE,a2,H,MapKept.run_setObj_map _ hE,Result.andThen,M,a0]
   ·refine wJ ?_ j;rw[Array.toList_modify,Ni _ _ _ _ W,List.map_set];exact(Rt _ _ _ (by simp[M])).symm
   ·intro w' L h' f;rw[Array.toList_modify,Ni _ _ _ _ W];exact XF.set (B.imp fun a c ⟨K,xv,g1,g2,g3,g4⟩=>⟨K,xv,g1,g2,g3,g4.imp f⟩) qi _ _ ⟨K,(g v).cells.toList,ey,R,Q,(z.imp f).append (E.imp f)⟩
 ·simp at p
theorem qz (t D e:TypeId)(x:Operand)(j:Operand->Value)(o:Oper)(q:Array TypeId)(z:o.op=.call ⟨.builtin .len,#[x],q⟩)(A:q[0]? =some t)(B:P.underlying t=some (.map D e))(m:DV)(C:XB w O μ h (j x) m)(r:Vc)
  (d:Tb h [m]=some r) (p:X0 w O μ h):VF O w μ h n ((execOp j o).run P w) r:=by
 unfold Tb at d;split at d
 ·rename_i id g;simp only[ZJ,and_true]at g;subst g;cases k:h id with
  |none=>simp[k]at d
  |some b=>
  simp only[k]at d;obtain⟨a,rfl⟩:=Xv d;rw[Zs]at a;obtain⟨a,c⟩:=a;have c:Nat.beq b.ty 2=false:=by simpa using c
  obtain⟨E,s,u,_,f⟩:=(p.QG id b k).map a c;have l:j x=.map (some (μ id)):=by
   have i:XL w O μ h (j x) (.mp id):=C;generalize j x=v at i;cases i with
   |mp _ _ _ _=>rfl
  have y:=f.length;refine TO (v:=.int .i64 (Int.ofNat b.ch.length)) p ?_ (XB.int _ _);rw[<-y];simp[execOp,z,resolve,invoke,builtin,Builtin.len_,A,l,underlying,B,goInt,Sem.run_bind,Result.andThen,go_sem,MapKept.run_getObj_map u]
 ·simp at d
end
end Go.Ev
