/- Operations that leave the heap alone: what the model computes stands for what the interpreter computes. -/
import Derived.Test.YtefpgecinlekpaaGreatEvRep
import Derived.ChangeKeysEq
namespace Go.Ev
def TH (h:HF):List (Nat×Xz)->HF
 |[]=>h
 |(id,b)::ws=>TH (fun x=>if x=id then some b else h x) ws
def Rc (h:HF)(n:Nat):List Xz->HF
 |[]=>h
 |b::bs=>Rc (fun x=>if x=n then some b else h x) (n+1) bs
def r7 (h:HF)(n:Nat)(r:W5):HF:=Rc (TH h r.wr) n r.al
def VI (O:BS)(w:World)(μ:Nat->Nat)(h:HF)(n:Nat)(res:Result Next)(r:W5):Prop:=
 ∃v w' μ',(res=.ok (.value v) w'\/(res=.ok .skip w'/\v=undef))/\XC w' O μ' (r7 h n r) v r.val/\X4 w' O μ' (r7 h n r)/\Wo O w μ h w' μ' (r7 h n r)
section
variable {P:Program}{O:BS}{w:World}{μ:Nat->Nat}{h:HF}{n:Nat}
theorem Wy {s:Sem Value}{v:Value}{a:World}(b:s.run P w=.ok v a):(do pure (Next.value (<-s)):Sem Next).run P w=.ok (.value v) a:=by
 simp[Sem.run_bind,b,Result.andThen,Sem.run,pure]
theorem X8 {v:Value}{d:DV}{a:Result Next}(b:X4 w O μ h)(c:a=.ok (.value v) w)(e:XC w O μ h v d):VI O w μ h n a (.pure d):=
 ⟨v,w,μ,.inl c,e,b,Wo.refl _ _ _ _⟩
theorem TM {v:Value}{d:DV}{f:List Nat}{a:Result Next}(b:X4 w O μ h)(c:a=.ok (.value v) w)(e:XC w O μ h v d):VI O w μ h n a ⟨d,[],[],f⟩:=
 ⟨v,w,μ,.inl c,e,b,Wo.refl _ _ _ _⟩
theorem XC.WV {v:Value}{k:IntKind}{a:Int}(r:XC w O μ h v (.one (.p (.int k a)))):v=.int k a:=by
 have r:XP w O μ h v (.p (.int k a)):=r;cases r with |p _ _ b=>cases b;rfl
theorem XC.SU {v:Value}{b:Bool}(r:XC w O μ h v (.one (.p (.bool b)))):v=.bool b:=by
 have r:XP w O μ h v (.p (.bool b)):=r;cases r with |p _ _ a=>cases a;rfl
theorem XC.ax {v:Value}(r:XC w O μ h v (.one (.p .XJ))):v=.slice none 0 0:=by
 have r:XP w O μ h v (.p .XJ):=r;cases r with |p _ _ a=>cases a;rfl
theorem XC.int (k:IntKind)(a:Int):XC w O μ h (.int k a) (.one (.p (.int k a))):=XP.p _ _ (.int k a)
theorem XC.bool (b:Bool):XC w O μ h (.bool b) (.one (.p (.bool b))):=XP.p _ _ (.bool b)
theorem dC (c:BinOp)(t:TypeId)(x y:Operand)(k d:IntKind)(a b:Int):(eqGuard c t x y (.int k a) (.int d b)).run P w=.ok () w:=by
 cases c<;>simp[eqGuard,go_sem]
theorem bz (c:BinOp)(t:TypeId)(x y:Operand)(a b:Bool):(eqGuard c t x y (.bool a) (.bool b)).run P w=.ok () w:=by
 cases c<;>simp[eqGuard,go_sem]
theorem N2 (e:BinOp)(t:TypeId)(x y:Operand)(p q:Option Addr)(a b c d:Nat):(eqGuard e t x y (.slice p a b) (.slice q c d)).run P w=.ok () w:=by
 cases e<;>simp[eqGuard,go_sem]
theorem rC (n:BinOp)(t:TypeId)(k g:IntKind)(a b:Int)(d:DL)(e:Wv n k g a b=some d):
  ∃l,d=.p l/\∃v,(binOp n t (.int k a) (.int g b)).run P w=.ok v w/\WE w (Live O μ h) v l:=by
 cases n with
 |shl=>
  simp only[Wv]at e;cases b with
  |negSucc m=>simp[NM]at e
  |ofNat m=>
   simp only[NM,Sd,Za]at e;subst e;refine⟨_,rfl,.int k (k.wrap (a*2^(min m k.bits))),?_,?_⟩
   ·simp[binOp,Op.shift,go_sem]
   ·rw[SK,ou];have :Int.ofNat (2^Nat.min m k.bits)=(2:Int)^(min m k.bits):=by simp
    rw[this];exact .int _ _
 |shr=>
  simp only[Wv]at e;cases b with
  |negSucc m=>simp[Qr]at e
  |ofNat m=>
   simp only[Qr,Sd,Za]at e;subst e;refine⟨_,rfl,.int k (a.fdiv (2^(min m k.bits))),?_,?_⟩
   ·simp[binOp,Op.shift,go_sem]
   ·rw[AY,ou];exact .int _ _
 |quo=>
  simp only[Wv,VJ,Tx,Sd]at e;cases f:dF k g<;>simp only[f,cond_true,cond_false,reduceCtorEq]at e;have c:=(VG _ _).1 f;subst c;cases i:OX b 0<;>simp only[i,cond_true,cond_false,reduceCtorEq,Za]at e;subst e;rw[gx]at i;have j:b≠0:=by simpa using i
  refine⟨_,rfl,.int k (k.wrap (a.tdiv b)),?_,?_⟩
  ·simp[binOp,Op.intDiv,go_sem,j]
  ·rw[SK];exact .int _ _
 |rem=>
  simp only[Wv,VJ,U9,Sd]at e;cases f:dF k g<;>simp only[f,cond_true,cond_false,reduceCtorEq]at e;have c:=(VG _ _).1 f;subst c;cases i:OX b 0<;>simp only[i,cond_true,cond_false,reduceCtorEq,Za]at e;subst e;rw[gx]at i;have j:b≠0:=by simpa using i
  refine⟨_,rfl,.int k (a.tmod b),?_,.int _ _⟩;simp[binOp,Op.intDiv,go_sem,j]
 |add=>
  simp only[Wv,VJ,Sd]at e;cases f:dF k g<;>simp only[f,cond_true,cond_false,reduceCtorEq,Za]at e;have c:=(VG _ _).1 f;subst c;subst e;exact⟨_,rfl,_,by simp[binOp,Op.intArith,SK],.int _ _⟩
 |sub=>
  simp only[Wv,VJ,Sd]at e;cases f:dF k g<;>simp only[f,cond_true,cond_false,reduceCtorEq,Za]at e;have c:=(VG _ _).1 f;subst c;subst e;exact⟨_,rfl,_,by simp[binOp,Op.intArith,SK],.int _ _⟩
 |mul=>
  simp only[Wv,VJ,Sd]at e;cases f:dF k g<;>simp only[f,cond_true,cond_false,reduceCtorEq,Za]at e;have c:=(VG _ _).1 f;subst c;subst e;exact⟨_,rfl,_,by simp[binOp,Op.intArith,SK],.int _ _⟩
 |and=>
  simp only[Wv,VJ,Sd]at e;cases f:dF k g<;>simp only[f,cond_true,cond_false,reduceCtorEq,Za]at e;have c:=(VG _ _).1 f;subst c;subst e;exact⟨_,rfl,_,by rw[and_eq];simp only[binOp,ne_eq,not_true_eq_false,if_false,Op.intBits];rfl,.int _ _⟩
 |or=>
  simp only[Wv,VJ,Sd]at e;cases f:dF k g<;>simp only[f,cond_true,cond_false,reduceCtorEq,Za]at e;have c:=(VG _ _).1 f;subst c;subst e;exact⟨_,rfl,_,by rw[or_eq];simp only[binOp,ne_eq,not_true_eq_false,if_false,Op.intBits];rfl,.int _ _⟩
 |xor=>
  simp only[Wv,VJ,Sd]at e;cases f:dF k g<;>simp only[f,cond_true,cond_false,reduceCtorEq,Za]at e;have c:=(VG _ _).1 f;subst c;subst e;exact⟨_,rfl,_,by rw[xor_eq];simp only[binOp,ne_eq,not_true_eq_false,if_false,Op.intBits];rfl,.int _ _⟩
 |andNot=>
  simp only[Wv,VJ,Sd]at e;cases f:dF k g<;>simp only[f,cond_true,cond_false,reduceCtorEq,Za]at e;have c:=(VG _ _).1 f;subst c;subst e;exact⟨_,rfl,_,by rw[wI];simp only[binOp,ne_eq,not_true_eq_false,if_false,Op.intBits];rfl,.int _ _⟩
 |eql=>
  simp only[Wv,VJ,TX]at e;cases f:dF k g<;>simp only[f,cond_true,cond_false,reduceCtorEq,Za]at e;have c:=(VG _ _).1 f;subst c;subst e;exact⟨_,rfl,_,by simp[binOp,Op.intCmp,gx],.bool _⟩
 |neq=>
  simp only[Wv,VJ,TX]at e;cases f:dF k g<;>simp only[f,cond_true,cond_false,reduceCtorEq,Za]at e;have c:=(VG _ _).1 f;subst c;subst e;exact⟨_,rfl,_,by simp[binOp,Op.intCmp,gx,bne],.bool _⟩
 |lss=>
  simp only[Wv,VJ,TX]at e;cases f:dF k g<;>simp only[f,cond_true,cond_false,reduceCtorEq,Za]at e;have c:=(VG _ _).1 f;subst c;subst e;exact⟨_,rfl,_,by simp[binOp,Op.intCmp,lj],.bool _⟩
 |leq=>
  simp only[Wv,VJ,TX]at e;cases f:dF k g<;>simp only[f,cond_true,cond_false,reduceCtorEq,Za]at e;have c:=(VG _ _).1 f;subst c;subst e;exact⟨_,rfl,_,by simp[binOp,Op.intCmp,y9],.bool _⟩
 |gtr=>
  simp only[Wv,VJ,TX]at e;cases f:dF k g<;>simp only[f,cond_true,cond_false,reduceCtorEq,Za]at e;have c:=(VG _ _).1 f;subst c;subst e;exact⟨_,rfl,_,by simp[binOp,Op.intCmp,lj],.bool _⟩
 |geq=>
  simp only[Wv,VJ,TX]at e;cases f:dF k g<;>simp only[f,cond_true,cond_false,reduceCtorEq,Za]at e;have c:=(VG _ _).1 f;subst c;subst e;exact⟨_,rfl,_,by simp[binOp,Op.intCmp,y9],.bool _⟩
theorem AW (f:BinOp)(t u:TypeId)(x y:Operand)(i:Operand->Value)(o:Oper)(B:o.op=.binOp f t x y u)
  (j m:DV) (E:XC w O μ h (i x) j) (F:XC w O μ h (i y) m) (r:W5) (c:fw f [j,m]=some r) (A:X4 w O μ h):
  VI O w μ h n ((execOp i o).run P w) r:=by
 unfold fw at c;split at c
 ·rename_i k a q b e;simp only[ZF,and_true]at e;obtain⟨rfl,rfl⟩:=e;cases g:Wv f k q a b with
  |none=>simp[g]at c
  |some d=>
  simp only[g,Za]at c;subst c;have s:=E.WV;have z:=F.WV;obtain⟨l,rfl,v,D,C⟩:=rC (P:=P) (w:=w) (O:=O) (μ:=μ) (h:=h) f t k q a b d g;refine X8 (v:=v) A ?_ (XP.p _ _ C);simp only[execOp,B];exact Wy (by simp[Sem.run_bind,s,z,dC,Result.andThen,D])
 ·simp at c
theorem mS (c:Bool)(t u:TypeId)(x y:Operand)(f:Operand->Value)(o:Oper)(p:o.op=.binOp (if c then .neq else .eql) t x y u)(j:P.underlying t=some .bool)
  (g i:DV) (q:XC w O μ h (f x) g) (s:XC w O μ h (f y) i) (r:W5) (e:Nu c [g,i]=some r) (m:X4 w O μ h):
  VI O w μ h n ((execOp f o).run P w) r:=by
 unfold Nu at e;split at e
 ·rename_i a b d;simp only[ZF,and_true]at d;obtain⟨rfl,rfl⟩:=d;simp only[Za]at e;subst e;have k:=q.SU;have l:=s.SU;refine X8 (v:=.bool ((a==b)!=c)) m ?_ (XC.bool _);simp only[execOp,p];refine Wy ?_;rw[Sem.run_bind,k,l,bz];cases c
  ·simp only[Result.andThen,binOp,Sem.run_bind,run_equal_bool w t a b j,if_false,Zz];simp[pure]
  ·simp only[Result.andThen,binOp,Sem.run_bind,run_equal_bool w t a b j,if_true];simp[pure]
 ·simp at e
end
end Go.Ev
namespace Go.Ev
section
variable {P:Program}{O:BS}{w:World}{μ:Nat->Nat}{h:HF}{n:Nat}
theorem Us (b o k:Nat):(⟨b,o,none⟩:Addr).add k=⟨b,o+k,none⟩:=by
 unfold Addr.add;split<;>simp_all
theorem XC.BX {v:Value}{a:List Nat}(r:XC w O μ h v (.one (.p (.str a)))):∃s:ByteArray,v=.string s/\a=s.data.toList.map UInt8.toNat:=by
 have r:XP w O μ h v (.p (.str a)):=r;cases r with |p _ _ b=>cases b;exact⟨_,rfl,rfl⟩
theorem XC.dZ {v:Value}{e:List PL}(r:XC w O μ h v (.one (.p (.ref e)))):∃b c,v=.pointer (some ⟨b,c,none⟩)/\∃a:Nat->Value,(∀(j:Nat) (d:PL),e[j]? =some d->¬Live O μ h b)/\
  (∀(j:Nat) (d:PL),e[j]? =some d->w.cell? ⟨b,c+j,none⟩=some (a j))/\(∀(j:Nat) (d:PL),e[j]? =some d->WE w (Live O μ h) (a j) d):=by
 have r:XP w O μ h v (.p (.ref e)):=r;cases r with |p _ _ i=>cases i with |ref b c _ a g f k=>exact⟨b,c,rfl,a,g,f,k⟩
theorem XC.ay {v:Value}{f:List (List PL)}(r:XC w O μ h v (.one (.p (.Xv f)))):∃b g l e n,v=.slice (some ⟨b,g,n⟩) f.length e/\(f=[]\/n=none)/\f.length<=e/\
  (∀(i:Nat) (c:List PL),f[i]? =some c->c.length=l)/\∃a:Nat->Nat->Value,(∀(i:Nat) (c:List PL) (j:Nat) (d:PL),f[i]? =some c->c[j]? =some d->¬Live O μ h b)/\
  (∀(i:Nat) (c:List PL) (j:Nat) (d:PL),f[i]? =some c->c[j]? =some d->w.cell? ⟨b,g+i*l+j,none⟩=some (a i j))/\(∀(i:Nat) (c:List PL) (j:Nat) (d:PL),f[i]? =some c->c[j]? =some d->WE w (Live O μ h) (a i j) d):=by
 have r:XP w O μ h v (.p (.Xv f)):=r;cases r with |p _ _ s=>cases s with |Xv b g l e _ a q k u o t m=>exact⟨b,g,l,e,_,rfl,m,k,u,a,q,o,t⟩
theorem XC.SH {v:Value}{id XZ d c:Nat}(r:XC w O μ h v (.one (.own id XZ d c))):∃b g o a,v=.slice (some ⟨g,o,none⟩) c a/\h id=some b/\XZ<=b.XZ/\c<=a/\
  (XZ=b.XZ->g=μ id/\∃(C:Array Value) (T:TypeId),w.heap[μ id]? =some (.cells C T (0,0))/\((o=d*b.sz/\(d+a)*b.sz=C.size/\a<=maxLen)\/(c=0/\a=0/\0<d))):=by
 have r:XP w O μ h v (.own id XZ d c):=r;cases r with |own _ _ _ _ b g o a e j f i=>exact⟨b,g,o,a,rfl,e,j,f,i⟩
theorem XC.Pq {v:Value}{id XZ i a:Nat}(r:XC w O μ h v (.one (.ptr id XZ i a))):∃b g o,v=.pointer (some ⟨g,o,none⟩)/\h id=some b/\XZ<=b.XZ/\(XZ=b.XZ->g=μ id/\o=i*b.sz+a):=by
 have r:XP w O μ h v (.ptr id XZ i a):=r;cases r with |ptr _ _ _ _ b g o c e d=>exact⟨b,g,o,rfl,c,e,d⟩
theorem mP (x:Operand)(d:Operand->Value)(o:Oper)(a:o.op=.move x\/o.op=.assign x)(b:DV)(f:XC w O μ h (d x) b)(r:W5)(c:Nr [b]=some r)(e:X4 w O μ h):
  VI O w μ h n ((execOp d o).run P w) r:=by
 simp only[Nr,Za]at c;subst c;refine X8 e ?_ f;rcases a with a|a<;>simp[execOp,a]
theorem kC (x:Operand)(j:Operand->Value)(o:Oper)(s:o.op=.nilCheck x)(z:DV)(d:XC w O μ h (j x) z)(r:W5)(t:Sr [z]=some r)(m:X4 w O μ h):
  VI O w μ h n ((execOp j o).run P w) r:=by
 unfold Sr at t;split at t<;>simp only[reduceCtorEq,Za]at t<;>subst t<;>rename_i l<;>simp only[ZF,and_true]at l<;>subst l
 ·obtain⟨b,g,q,e,_⟩:=d.Pq;exact X8 m (by simp[execOp,s,e]) d
 ·obtain⟨b,q,e,_⟩:=d.dZ;exact X8 m (by simp[execOp,s,e]) d
 ·have c:XP w O μ h (j x) (.fn _ _):=d;generalize y:j x=v at c;cases c with
  |fn f k u B A=>obtain⟨g,a,b,e⟩:=jM _ u;have i:=y.trans e;exact X8 m (by simp[execOp,s,i]) d
 ·have c:XP w O μ h (j x) (.p (.fn _ _)):=d;generalize y:j x=v at c;cases c with
  |p _ _ C=>cases C with
   |fn f k u B A=>obtain⟨g,a,b,e⟩:=jM _ u;have i:=y.trans e;exact X8 m (by simp[execOp,s,i]) d
theorem xr (c x y:Operand)(f:Operand->Value)(o:Oper)(l:o.op=.pick c x y)(g i j:DV)(m:XC w O μ h (f c) g)(s:XC w O μ h (f x) i)(t:XC w O μ h (f y) j)(r:W5)
  (d:Nq [g,i,j]=some r) (k:X4 w O μ h):VI O w μ h n ((execOp f o).run P w) r:=by
 unfold Nq at d;split at d
 ·rename_i b p q a;simp only[ZF,and_true]at a;obtain⟨rfl,rfl,rfl⟩:=a;simp only[Za]at d;subst d;have e:=m.SU;cases b
  ·exact X8 k (by simp[execOp,l,e,asBool]) t
  ·exact X8 k (by simp[execOp,l,e,asBool]) s
 ·simp at d
theorem xx (s d:TypeId)(k:IntKind)(x:Operand)(g:Operand->Value)(o:Oper)(l:o.op=.convert s d x)(m:∃u,P.underlying s=some u)(j:P.underlying d=some (.int k))(f:DV)(q:XC w O μ h (g x) f)(r:W5)
  (c:Nt k [f]=some r) (i:X4 w O μ h):VI O w μ h n ((execOp g o).run P w) r:=by
 unfold Nt at c;split at c
 ·rename_i t a b;simp only[ZF,and_true]at b;subst b;simp only[Za]at c;subst c;have e:=q.WV;obtain⟨u,p⟩:=m;rw[SK];refine X8 i ?_ (XC.int _ _);simp only[execOp,l];exact Wy (by simp[convert,underlying,p,j,e,Conv.intToInt,Sem.run_bind,Result.andThen,go_sem])
 ·simp at c
theorem Dc (g:UnOp)(t:TypeId)(x:Operand)(q:Operand->Value)(o:Oper)(m:o.op=.unOp g t x)(i:DV)(p:XC w O μ h (q x) i)(r:W5)
  (f:fv g [i]=some r) (j:X4 w O μ h):VI O w μ h n ((execOp q o).run P w) r:=by
 cases i with
 |agg _=>simp[fv]at f
 |XY _=>simp[fv]at f
 |one l=>
 simp only[fv]at f;cases c:Ea g l with
 |none=>simp[c]at f
 |some d=>
 simp only[c,Za]at f;subst f;unfold Ea at c;split at c
 ·rename_i k a;have e:=p.WV;cases g<;>simp only[reduceCtorEq,Za]at c<;>subst c
  ·rw[SK];refine X8 j ?_ (XC.int _ _);simp only[execOp,m];exact Wy (by simp[Op.unary,e,Op.intArith])
  ·rw[wV];refine X8 j ?_ (XC.int _ _);simp only[execOp,m];exact Wy (by simp only[Op.unary,e,Op.intBits];rfl)
 ·rename_i b;have e:=p.SU;cases g<;>simp only[reduceCtorEq,Za]at c<;>subst c;refine X8 j ?_ (XC.bool _);simp only[execOp,m];exact Wy (by simp[Op.unary,e])
 ·simp at c
theorem mR (k:Nat)(x:Operand)(j:Operand->Value)(o:Oper)(p:o.op=.extract x k)(i:DV)(q:XC w O μ h (j x) i)(r:W5)
  (a:Ss k [i]=some r) (l:X4 w O μ h):VI O w μ h n ((execOp j o).run P w) r:=by
 unfold Ss at a;split at a
 ·rename_i s b;simp only[ZF,and_true]at b;subst b;obtain⟨t,e,m⟩:=q;cases c:s[k]? with
  |none=>simp[c]at a
  |some d=>
  simp only[c,Za]at a;subst a;obtain⟨v,f,g⟩:=m.get k d c;refine X8 l ?_ (XC.Gs g);simp only[execOp,p];exact Wy (by simp[Instr.extract,e,f])
 ·simp at a
theorem AU (t:TypeId)(x:Operand)(j:Operand->Value)(o:Oper)(s:Array TypeId)(u:o.op=.call ⟨.builtin .len,#[x],s⟩)(e:TypeId)(v:s[0]? =some t)(y:P.underlying t=some (.slice e))(m:DV)(l:XC w O μ h (j x) m)(r:W5)
  (i:R6 [m]=some r) (k:X4 w O μ h):VI O w μ h n ((execOp j o).run P w) r:=by
 have key:∀(p:Option Addr) (c a:Nat),j x=.slice p c a->(execOp j o).run P w=.ok (.value (.int .i64 (Int.ofNat c))) w:=by
  intro p c a d;simp[execOp,u,resolve,invoke,builtin,Builtin.len_,v,d,underlying,y,goInt,Sem.run_bind,Result.andThen,go_sem]
 unfold R6 at i;split at i<;>simp only[reduceCtorEq,Za]at i<;>subst i<;>rename_i f<;>simp only[ZF,and_true]at f<;>subst f
 ·exact X8 k (key _ _ _ l.ax) (XC.int _ _)
 ·obtain⟨b,z,B,a,A,d,_⟩:=l.ay;exact X8 k (key _ _ _ d) (XC.int _ _)
 ·obtain⟨b,g,q,a,d,_⟩:=l.SH;exact X8 k (key _ _ _ d) (XC.int _ _)
end
end Go.Ev
namespace Go.Ev
section
variable {P:Program}{O:BS}{w:World}{μ:Nat->Nat}{h:HF}{n:Nat}
theorem Xw {a:Type}{b:Bool}{x y:a}(h:(bif b then some x else none)=some y):b=true/\x=y:=by
 cases b<;>simp_all
theorem iw (s:TypeId)(z:Array Field)(f:Nat)(l:Field)(i:TypeInfo)(x:Operand)(u:Operand->Value)(o:Oper)(I:o.op=.fieldAddr s x f)(K:P.underlying s=some (.struct z))(F:z[f]? =some l)
  (G:P.info? l.type=some i) (M:i.size≠0) (y:DV) (B:XC w O μ h (u x) y) (r:W5) (k:Uc l.offset [y]=some r) (A:X4 w O μ h):VI O w μ h n ((execOp u o).run P w) r:=by
 have key:∀(g q:Nat),u x=.pointer (some ⟨g,q,none⟩)->(execOp u o).run P w=.ok (.value (.pointer (some ⟨g,q+l.offset,none⟩))) w:=by
  intro g q m;simp only[execOp,I];refine Wy ?_;simp[Instr.fieldAt,underlying,K,F,m,Instr.sureAddr,fieldPlace,Go.sizeOf,typeInfo,G,M,Sem.run_bind,Result.andThen,go_sem,Us]
 unfold Uc at k;split at k
 ·rename_i Q a;simp only[ZF,and_true]at a;subst a;obtain⟨_,rfl⟩:=Xw k;obtain⟨b,N,m,t,H,E,J⟩:=B.dZ;refine X8 A (key _ _ m) (XP.p _ _ (.ref _ _ _ (fun j=>t (l.offset+j)) (fun j d c=> ?_) (fun j d c=> ?_) (fun j d c=> ?_)))
  ·rw[Yd]at c;exact H _ _ c
  ·rw[Yd]at c;have:=E _ _ c;rw[Nat.add_assoc];exact this
  ·rw[Yd]at c;exact J _ _ c
 ·rename_i id XZ j q a;simp only[ZF,and_true]at a;subst a;simp only[Za]at k;subst k;obtain⟨b,g,S,m,D,L,v⟩:=B.Pq;exact X8 A (key _ _ m) (XP.ptr _ _ _ _ b _ _ D L fun e=>by obtain⟨C,R⟩:=v e;exact⟨C,by omega⟩)
 ·simp at k
theorem qh (t e:TypeId)(i:TypeInfo)(x M:Operand)(z:Operand->Value)(o:Oper)(ho:o.op=.indexAddr t x M)(ht:P.underlying t=some (.slice e))(hi:P.info? e=some i)
  (R Q:DV) (W:XC w O μ h (z x) R) (D:XC w O μ h (z M) Q) (r:W5) (u:VA i.size h [R,Q]=some r) (U:X4 w O μ h):VI O w μ h n ((execOp z o).run P w) r:=by
 have key:∀(g q l m j:Nat) (k:IntKind),z x=.slice (some ⟨g,q,none⟩) l m->z M=.int k (Int.ofNat j)->j<l->(execOp z o).run P w=.ok (.value (.pointer (some ⟨g,q+j*i.size,none⟩))) w:=by
  intro g q l m j k B I a;simp only[execOp,ho];refine Wy ?_;simp[Instr.indexAt,asIntOf,underlying,ht,B,I,Go.sizeOf,typeInfo,hi,Sem.run_bind,Result.andThen,go_sem,Us];intro a0;omega
 unfold VA at u;split at u
 ·rename_i S k j f;simp only[ZF,and_true]at f;obtain⟨rfl,rfl⟩:=f;cases s:S[j]? with
  |none=>simp[s]at u
  |some c=>
  simp only[s]at u;obtain⟨H,rfl⟩:=Xw u;obtain⟨b,N,sz,m,sp,B,L,A,hs,G,hl,v,hp⟩:=W.ay;obtain rfl:sp=none:=L.resolve_left (fun X=>by rw[X]at s;simp at s);have I:j<S.length:=(Zd.1 s).1;have F:i.size=sz:=by rw[<-hs j c s];exact(Zm H).symm
  refine X8 U (key _ _ _ _ _ _ B D.WV I) (XP.p _ _ (.ref _ _ _ (fun q=>G j q) (fun q d E=>hl j c q d s E) (fun q d E=> ?_) (fun q d E=>hp j c q d s E)));rw[F];exact v j c q d s E
 ·rename_i id XZ N l k j f;simp only[ZF,and_true]at f;obtain⟨rfl,rfl⟩:=f;obtain⟨b,g,q,m,B,V,hv,A,K⟩:=W.SH;simp only[V]at u;obtain⟨a,rfl⟩:=Xw u;rw[Zp]at a;obtain⟨y,a⟩:=a;have y:=Zm y;have a:j<l:=by simpa[Nat.blt_eq]using a
  refine TM U (key _ _ _ _ _ _ B D.WV a) (XP.ptr _ _ _ _ b _ _ V hv fun e=> ?_);obtain⟨Z,C,T,hC,Y⟩:=K e;rcases Y with⟨J,_⟩|⟨h0,_⟩
  ·refine⟨Z,?_⟩;rw[J,y,ZE];simp
  ·omega
 ·simp at u
theorem WS {a b:Nat}(h:Nat.ble a b=true):a<=b:=Nat.le_of_ble_eq_true h
theorem RS {a b:Nat}(h:Nat.blt a b=true):a<b:=by simpa[Nat.blt_eq]using h
theorem qj (t e:TypeId)(m:Nat)(i:TypeInfo)(x C:Operand)(f:Operand->Value)(o:Oper)(M:o.op=.indexAddr t x C)(Q:P.underlying t=some (.array m e))(J:P.info? e=some i)
  (E D:DV) (G:XC w O μ h (f x) E) (s:XC w O μ h (f C) D) (r:W5) (u:SM m i.size [E,D]=some r) (F:X4 w O μ h):VI O w μ h n ((execOp f o).run P w) r:=by
 have key:∀(g q j:Nat) (k:IntKind),f x=.pointer (some ⟨g,q,none⟩)->f C=.int k (Int.ofNat j)->j<m->(execOp f o).run P w=.ok (.value (.pointer (some ⟨g,q+j*i.size,none⟩))) w:=by
  intro g q j k l K A;simp only[execOp,M];refine Wy ?_;simp[Instr.indexAt,asIntOf,underlying,Q,l,K,Go.sizeOf,typeInfo,J,Instr.sureAddr,Sem.run_bind,Result.andThen,go_sem,Us,A]
 unfold SM at u;split at u
 ·rename_i T k j a;simp only[ZF,and_true]at a;obtain⟨rfl,rfl⟩:=a;obtain⟨y,rfl⟩:=Xw u;rw[Zp]at y;obtain⟨b,S,l,v,L,I,N⟩:=G.dZ;refine X8 F (key _ _ _ _ l s.WV (RS y.1)) (XP.p _ _ (.ref _ _ _ (fun q=>v (j*i.size+q)) (fun q d c=> ?_) (fun q d c=> ?_) (fun q d c=> ?_)))
  ·rw[Yd]at c;exact L _ _ c
  ·rw[Yd]at c;have:=I _ _ c;rw[Nat.add_assoc];exact this
  ·rw[Yd]at c;exact N _ _ c
 ·rename_i id XZ V q k j a;simp only[ZF,and_true]at a;obtain⟨rfl,rfl⟩:=a;obtain⟨y,rfl⟩:=Xw u;obtain⟨b,g,W,l,z,R,B⟩:=G.Pq;exact X8 F (key _ _ _ _ l s.WV (RS y)) (XP.ptr _ _ _ _ b _ _ z R fun e=>by obtain⟨H,U⟩:=B e;exact⟨H,by omega⟩)
 ·simp at u
theorem jo (t:TypeId)(i:TypeInfo)(b:Bool)(m:cr P t=some b)(r:P.info? t=some i)(xs:List Value)(g:List DL)(l:XF (XP w O μ h) xs g)(a:Nat)(v:DV)(f:TC b i.size (g.drop a)=some v):
  ∃u,(part t xs.toArray a).run P w=.ok u w/\XC w O μ h u v:=by
 have e:(isAgg t).run P w=.ok b w:=by
  unfold cr at m;unfold isAgg;split at m<;>simp only[Za,reduceCtorEq]at m<;>subst m<;>rename_i n
  ·simp[underlying,n]
  ·simp[underlying,n]
  ·rename_i s x;rename_i d;cases d<;>simp_all [underlying]
 unfold TC at f;cases b with
 |true=>
  simp only[cond_true]at f;obtain⟨k,rfl⟩:=Xw f;have k:=WS k;refine⟨.agg ((xs.drop a).take i.size).toArray,?_,⟨_,rfl,(l.drop a).take i.size⟩⟩;have p:(Go.sizeOf t).run P w=.ok i.size w:=by simp[Go.sizeOf,typeInfo,r]
  simp[part,Sem.run_bind,e,Result.andThen,p]
 |false=>
  simp only[cond_false]at f;cases o:g.drop a with
  |nil=>simp[o]at f
  |cons c rest=>
  simp only[o,Za]at f;subst f;have h0:g[a]? =some c:=by
   have:=Yd (xs:=g) (i:=a) (j:=0);rw[o]at this;simpa using this.symm
  obtain⟨u,n,q⟩:=l.get a c h0;refine⟨u,?_,q⟩;simp[part,Sem.run_bind,e,Result.andThen,n]
end
end Go.Ev
namespace Go.Ev
section
variable {P:Program}{O:BS}{w:World}{μ:Nat->Nat}{h:HF}{n:Nat}
theorem uM (t e:TypeId)(i:TypeInfo)(p:Option Addr)(d a:Nat)(q:P.underlying t=some (.slice e))(o:P.info? e=some i)(j b:Option Value)(l u:Nat)
  (g:(j=none/\l=0)\/∃k,j=some (.int k (Int.ofNat l))) (f:(b=none/\u=d)\/∃k,b=some (.int k (Int.ofNat u))) (m:l<=u) (n:u<=a):
  (Instr.sliceAt t (.slice p d a) j b none).run P w=.ok (.slice (if a=l then p else p.map (·.add (l*i.size))) (u-l) (a-l)) w:=by
 have r:∀c,(Instr.sliceBound (.int .i64 (Int.ofNat l)) u c).run P w=.ok l w:=by intro c;simp[Instr.sliceBound,asIntOf];intro;omega
 have h:(Go.sizeOf e).run P w=.ok i.size w:=by simp[Go.sizeOf,typeInfo,o]
 rcases g with⟨rfl,rfl⟩|⟨k,rfl⟩<;>rcases f with⟨rfl,rfl⟩|⟨s,rfl⟩<;>
  simp[Instr.sliceAt,Instr.slice,underlying,q,Instr.sliceBounds,Instr.sliceBound,asIntOf,h,Sem.run_bind,Result.andThen,m,n]
theorem XP.vq {id XZ c s l u:Nat}{v:Value}(i:TypeInfo)(b:Xz)(t:h id=some b)(p:b.sz=i.size)(g q a:Nat)(z:XZ<=b.XZ)(D:l<=u)(E:u<=a)
  (y:XZ=b.XZ->g=μ id/\∃(C:Array Value) (T:TypeId),w.heap[μ id]? =some (.cells C T (0,0))/\((q=c*b.sz/\(c+a)*b.sz=C.size/\a<=maxLen)\/(s=0/\a=0/\0<c)))
  (A:v=.slice (if a=l then some ⟨g,q,none⟩else some ⟨g,q+l*i.size,none⟩) (u-l) (a-l)):XP w O μ h v (.own id XZ (c+l) (u-l)):=by
 subst A;by_cases x:a=l
 ·rw[if_pos x];refine .own id XZ (c+l) (u-l) b g q (a-l) t z (by omega) fun e=> ?_
  obtain⟨k,C,T,f,j⟩:=y e;refine⟨k,C,T,f,?_⟩;rcases j with⟨n,r,B⟩|⟨h0,d,o⟩
  ·by_cases m:l=0
   ·subst m;left;exact⟨by simpa using n,by simpa using r,by omega⟩
   ·right;exact⟨by omega,by omega,by omega⟩
  ·right;exact⟨by omega,by omega,by omega⟩
 ·rw[if_neg x];refine .own id XZ (c+l) (u-l) b g _ (a-l) t z (by omega) fun e=> ?_
  obtain⟨k,C,T,f,j⟩:=y e;refine⟨k,C,T,f,?_⟩;rcases j with⟨n,r,B⟩|⟨h0,d,o⟩
  ·left;refine⟨by rw[n,p,ZE],?_,by omega⟩;rw[<-r];congr 1;omega
  ·omega
theorem WE.Gd {L:BS}(a:Addr)(e:Nat):WE w L (.slice (some a) 0 e) (.Xv []):=
 .Xv a.block a.off 0 e [] (fun _ _=>.bool true) (fun i c j d b=>by simp at b) (by simp) (fun i c b=>by simp at b) (fun i c j d b=>by simp at b) (fun i c j d b=>by simp at b) (.inl rfl)
theorem WE.vJ {L:BS}{f:List (List PL)}{v:Value}(i:TypeInfo){b n y a l u:Nat}(C:f.length<=a)(H:∀(i:Nat) (c:List PL),f[i]? =some c->c.length=y)(o:Nat->Nat->Value)
  (F:∀(i:Nat) (c:List PL) (j:Nat) (d:PL),f[i]? =some c->c[j]? =some d->¬L b)
  (D:∀(i:Nat) (c:List PL) (j:Nat) (d:PL),f[i]? =some c->c[j]? =some d->w.cell? ⟨b,n+i*y+j,none⟩=some (o i j))
  (G:∀(i:Nat) (c:List PL) (j:Nat) (d:PL),f[i]? =some c->c[j]? =some d->WE w L (o i j) d) (I:l<=u) (J:u<=f.length) (B:(∃c,f[l]? =some c)->l≠a->y=i.size)
  (E:v=.slice (if a=l then some ⟨b,n,none⟩else some ⟨b,n+l*i.size,none⟩) (u-l) (a-l)):WE w L v (.Xv ((f.take u).drop l)):=by
 have m:((f.take u).drop l).length=u-l:=by simp;omega
 have g:∀(k:Nat) (c:List PL),((f.take u).drop l)[k]? =some c->f[l+k]? =some c/\l+k<u:=by
  intro k c h;rw[Yd,Yc]at h;split at h
  ·exact⟨h,by assumption⟩
  ·simp at h
 subst E;by_cases p:a=l
 ·rw[if_pos p];have x:u-l=0:=by omega
  have t:(f.take u).drop l=[]:=Yk (by rw[m,x]);rw[t,x];exact .Xv b n y (a-l) [] (fun _ _=>.bool true) (fun i c j d q=>by simp at q) (by simp) (fun i c q=>by simp at q) (fun i c j d q=>by simp at q) (fun i c j d q=>by simp at q) (.inr rfl)
 ·rw[if_neg p,<-m];refine .Xv b (n+l*i.size) y (a-l) _ (fun k j=>o (l+k) j) (fun k c j d h r=>F _ _ _ _ (g k c h).1 r) (by rw[m];omega) (fun k c h=>H _ _ (g k c h).1) (fun k c j d h r=> ?_) (fun k c j d h r=>G _ _ _ _ (g k c h).1 r) (.inr rfl);have s:=(g k c h).1;have z:l<f.length:=by have:=(Zd.1 s).1;omega
  have A:=B ⟨f[l],by simp[z]⟩ (fun e=>p e.symm);have:=D _ _ _ _ s r;rw[<-A];rw[ZE,<-Nat.add_assoc]at this;exact this
theorem uE (t e:TypeId)(i:TypeInfo)(x:Operand)(L B:Option Operand)(I:Operand->Value)(o:Oper)(ho:o.op=.slice t x L B none)(ht:P.underlying t=some (.slice e))(hi:P.info? e=some i)
  (Z:DV) (ds:List DV) (hx:XC w O μ h (I x) Z) (E:XF (fun y d=>XC w O μ h (I y) d) (L.toList++B.toList) ds) (r:W5) (K:R5 i.size L.isSome B.isSome h (Z::ds)=some r) (N:X4 w O μ h):
  VI O w μ h n ((execOp I o).run P w) r:=by
 unfold R5 at K;cases f:VO L.isSome B.isSome (Z::ds)with
 |none=>simp[f]at K
 |some q=>
 obtain⟨y,l,u⟩:=q;simp only[f]at K;have args:Z=.one y/\(∃W:Option Value,L.map I=W/\((W=none/\l=0)\/∃k,W=some (.int k (Int.ofNat l))))/\
   (∃V:Option Value,B.map I=V/\((V=none/\u=none)\/∃k u',V=some (.int k (Int.ofNat u'))/\u=some u')):=by
  cases L with
  |none=>
   cases B with
   |none=>
    cases E;simp only[VO,Option.isSome_none]at f;split at f<;>simp_all
   |some hh=>
    cases E with
    |cons z X=>
     cases X;unfold VO at f;split at f<;>simp_all;obtain⟨rfl,rfl,rfl⟩:=f;exact⟨_,_,z.WV,rfl⟩
  |some ll=>
   cases B with
   |none=>
    cases E with
    |cons z X=>
     cases X;unfold VO at f;split at f<;>simp_all;obtain⟨rfl,rfl,rfl⟩:=f;exact⟨_,z.WV⟩
   |some hh=>
    cases E with
    |cons z X=>cases X with
     |cons A t2=>
      cases t2;unfold VO at f;split at f<;>simp_all;obtain⟨rfl,rfl,rfl⟩:=f;exact⟨⟨_,z.WV⟩,_,_,A.WV,rfl⟩
 obtain⟨rfl,⟨W,a3,a2⟩,a5,a1,a0⟩:=args;have key:∀(p:Option Addr) (s j:Nat),I x=.slice p s j->l<=u.getD s->u.getD s<=j->
   (execOp I o).run P w=.ok (.value (.slice (if j=l then p else p.map (·.add (l*i.size))) (u.getD s-l) (j-l))) w:=by
  intro p s j J z A;simp only[execOp,ho];refine Wy ?_;rw[J,a3,a1];refine uM t e i p s j ht hi W a5 l (u.getD s) a2 ?_ z A;rcases a0 with⟨a,b⟩|⟨k,u',a,b⟩
  ·exact .inl ⟨a,by rw[b];rfl⟩
  ·exact .inr ⟨k,by rw[a,b];rfl⟩
 cases m:WH i.size h y l u with
 |none=>simp[m]at K
 |some q=>
 obtain⟨d,rd⟩:=q;simp only[m,Za]at K;subst K;unfold WH at m;split at m
 ·
  rename_i es;obtain⟨D,v⟩:=Xw m;simp only[Zn]at v;obtain⟨rfl,rfl⟩:=v;simp only[Zp]at D;obtain⟨b,a6,sz,j,sp,J,a4,F,hs,Y,hl,H,hp⟩:=hx.ay;have z:=WS D.1.1;have A:=WS D.1.2;rcases a4 with rfl|rfl
  ·refine TM N (key _ _ _ J z (by omega)) (XP.p _ _ ?_);have e1:u.getD 0-l=0:=by simp only[Zu]at A;omega
   have e2:(([]:List (List PL)).take (u.getD 0)).drop l=[]:=by simp
   simp only[Zu]at e1⊢;rw[e1,e2];split
   ·exact WE.Gd _ _
   ·exact WE.Gd _ _
  refine TM N (key _ _ _ J z (by omega)) (XP.p _ _ (WE.vJ i F hs Y hl H hp z A (fun⟨c,R⟩ _=> ?_) ?_))
  ·have:=D.2;rw[R]at this;rw[<-hs l c R];exact Zm this
  ·split<;>simp[Us]
 ·
  obtain⟨D,v⟩:=Xw m;simp only[Zn]at v;obtain⟨rfl,rfl⟩:=v;simp only[Zp]at D;have z:=Zm D.1;have A:=Zm D.2;subst z;refine TM N ((key _ _ _ hx.ax (by omega) (by omega)).trans ?_) (XP.p _ _ .XJ);simp[A]
 ·
  rename_i id XZ a6 s;obtain⟨b,g,q,j,J,G,V,F,U⟩:=hx.SH;simp only[G]at m;obtain⟨D,v⟩:=Xw m;simp only[Zn]at v;obtain⟨rfl,rfl⟩:=v;simp only[Zp]at D;have z:=WS D.1.1;have h3:=Zm D.2;have A:u.getD s<=j:=by
   rcases Bool.or_eq_true_iff.1 D.1.2 with A|A
   ·have:=WS A;omega
   ·simp only[Zp,Yx]at A;obtain⟨⟨⟨⟨e1,e2⟩,e3⟩,e4⟩,e5⟩:=A;have e1:=Zm e1;have e3:=Zm e3;have e4:=RS e4;have e5:=WS e5;obtain⟨_,C,T,hC,hd⟩:=U e1.symm;have Q:=N.QW id b G;simp only[WI,e2,Zz,if_false]at Q;obtain⟨C',M,S,_⟩:=Q;rw[hC]at M;cases M;rcases hd with⟨_,hz,_⟩|⟨_,_,a7⟩
    ·rw[e3,Z4]at hz;rw[<-hz]at S;have:=Nat.le_of_mul_le_mul_right S (by omega:0<b.sz);omega
    ·omega
  refine TM N (key _ _ _ J z A) (XP.vq i b G h3 g q j V z A U ?_);split<;>simp[Us]
 ·simp at m
theorem qd (t e:TypeId)(i:TypeInfo)(x C f D:Operand)(j:Operand->Value)(o:Oper)(L:o.op=.slice t x (some C) (some f) (some D))(M:P.underlying t=some (.slice e))(K:P.info? e=some i)
  (A u y z:DV) (N:XC w O μ h (j x) A) (F:XC w O μ h (j C) u) (G:XC w O μ h (j f) y) (H:XC w O μ h (j D) z) (r:W5) (l:QE [A,u,y,z]=some r) (I:X4 w O μ h):
  VI O w μ h n ((execOp j o).run P w) r:=by
 unfold QE at l;split at l
 ·rename_i id XZ R Q T a U b V c d;simp only[ZF,and_true]at d;obtain⟨rfl,rfl,rfl,rfl⟩:=d
  ·obtain⟨k,rfl⟩:=Xw l;simp only[Zp]at k;have e1:=WS k.1.1;have e2:=WS k.1.2;have e3:=WS k.2;obtain⟨S,g,q,m,J,_,_,B,_⟩:=N.SH;have s:(Go.sizeOf e).run P w=.ok i.size w:=by simp[Go.sizeOf,typeInfo,K]
   have E:c<=m:=by omega
   refine X8 (v:=.slice (if c=a then some ⟨g,q,none⟩else(some (⟨g,q,none⟩:Addr)).map (·.add (a*i.size))) (b-a) (c-a)) I ?_ (XP.p _ _ (.RJ _ rfl));simp only[execOp,L];refine Wy ?_;rw[J];simp[ZU,F.WV,G.WV,H.WV,Instr.sliceAt,Instr.slice,underlying,M,Instr.sliceBounds,Instr.sliceBound,asIntOf,s,Sem.run_bind,Result.andThen,e1,e2,E]
 ·simp at l
theorem xu (t:TypeId)(m:Nat)(e:TypeId)(x:Operand)(j:Operand->Value)(o:Oper)(b:Array TypeId)(f:o.op=.call ⟨.builtin .len,#[x],b⟩)(g:b[0]? =some t)(i:P.underlying t=some (.array m e))(c:DV)(r:W5)
  (a:Ns m [c]=some r) (d:X4 w O μ h):VI O w μ h n ((execOp j o).run P w) r:=by
 simp only[Ns,Za]at a;subst a;refine X8 (v:=.int .i64 (Int.ofNat m)) d ?_ (XC.int _ _);simp[execOp,f,resolve,invoke,builtin,Builtin.len_,g,underlying,i,goInt,Sem.run_bind,Result.andThen,go_sem]
theorem XX {a:Type}{b:Bool}{x:Option a}{y:a}(h:(bif b then x else none)=some y):b=true/\x=some y:=by
 cases b<;>simp_all
theorem uF (s:TypeId)(m:Array Field)(f:Nat)(c:Field)(i:TypeInfo)(b:Bool)(x:Operand)(p:Operand->Value)(o:Oper)(A:o.op=.field s x f)(B:P.underlying s=some (.struct m))(y:m[f]? =some c)
  (t:cr P c.type=some b) (z:P.info? c.type=some i) (l:DV) (D:XC w O μ h (p x) l) (r:W5) (a:Pf b i.size c.offset [l]=some r) (q:X4 w O μ h):VI O w μ h n ((execOp p o).run P w) r:=by
 unfold Pf at a;split at a
 ·rename_i k d;simp only[ZF,and_true]at d;subst d;obtain⟨_,a⟩:=XX a;cases g:TC b i.size (k.drop c.offset)with
  |none=>simp[g]at a
  |some v=>
  simp only[g,Za]at a;subst a;obtain⟨E,e,j⟩:=D;obtain⟨u,C,a⟩:=jo (P:=P) c.type i b t z E k j c.offset v g;refine X8 q ?_ a;simp only[execOp,A];exact Wy (by simp[Instr.field,underlying,B,y,e,asAgg,Sem.run_bind,Result.andThen,C])
 ·simp at a
theorem qg (t e:TypeId)(m:Nat)(i:TypeInfo)(b:Bool)(x C:Operand)(q:Operand->Value)(o:Oper)(G:o.op=.index t x C)(H:P.underlying t=some (.array m e))(F:cr P e=some b)(B:P.info? e=some i)
  (z y:DV) (J:XC w O μ h (q x) z) (d:XC w O μ h (q C) y) (r:W5) (a:TR m b i.size [z,y]=some r) (E:X4 w O μ h):VI O w μ h n ((execOp q o).run P w) r:=by
 unfold TR at a;split at a
 ·rename_i s k j c;simp only[ZF,and_true]at c;obtain⟨rfl,rfl⟩:=c;obtain⟨A,a⟩:=XX a;rw[Zp]at A;have f:=RS A.1;cases l:TC b i.size (s.drop (j*i.size))with
  |none=>simp[l]at a
  |some v=>
  simp only[l,Za]at a;subst a;obtain⟨K,D,p⟩:=J;obtain⟨u,I,a⟩:=jo (P:=P) e i b F B K s p (j*i.size) v l;have g:(Go.sizeOf e).run P w=.ok i.size w:=by simp[Go.sizeOf,typeInfo,B]
  refine X8 E ?_ a;simp only[execOp,G];exact Wy (by simp[Instr.index,underlying,H,D,d.WV,asIntOf,Sem.run_bind,Result.andThen,f,g,I])
 ·simp at a
theorem kD (t:TypeId)(x p:Operand)(i:Operand->Value)(o:Oper)(z:o.op=.index t x p)(B:P.underlying t=some .string)
  (m l:DV) (C:XC w O μ h (i x) m) (g:XC w O μ h (i p) l) (r:W5) (a:VY [m,l]=some r) (y:X4 w O μ h):VI O w μ h n ((execOp i o).run P w) r:=by
 unfold VY at a;split at a
 ·rename_i q k j e;simp only[ZF,and_true]at e;obtain⟨rfl,rfl⟩:=e;cases d:q[j]? with
  |none=>simp[d]at a
  |some b=>
  simp only[d,Za]at a;subst a;obtain⟨s,u,rfl⟩:=C.BX;rw[Zx]at d;cases f:s.data.toList[j]? with
  |none=>simp[f]at d
  |some c=>
  simp only[f,ZU,Za]at d;subst d;refine X8 (v:=.int .u8 c.toNat) y ?_ (XC.int _ _);simp only[execOp,z];have A:s[j]? =some c:=by
   rw[Array.getElem?_toList]at f;exact f
  exact Wy (by simp[Instr.index,underlying,B,u,g.WV,asIntOf,Sem.run_bind,Result.andThen,A])
 ·simp at a
end
end Go.Ev
namespace Go.Ev
section
variable {P:Program}{O:BS}{w:World}{μ:Nat->Nat}{h:HF}{n:Nat}
theorem jD {v:Value}{l:DL}{b:Bool}(d:XC w O μ h v (.one l))(a:l.isNil=some b):∃p f c,v=.slice p f c/\p.isNone=b:=by
 unfold DL.isNil at a;split at a<;>simp only[Za,reduceCtorEq]at a<;>subst a
 ·exact⟨_,_,_,d.ax,rfl⟩
 ·obtain⟨g,q,_,_,_,e,_⟩:=d.ay;exact⟨_,_,_,e,rfl⟩
 ·obtain⟨_,g,q,_,e,_⟩:=d.SH;exact⟨_,_,_,e,rfl⟩
theorem dB (j:Nat)(t e:TypeId)(p q:Option Addr)(a b c d:Nat)(x y:Bool)(i:P.underlying t=some (.slice e))(f:p.isNone=x)(h:q.isNone=y)(g:x=true\/y=true):
  (Op.equalIn (j+1) t (.slice p a b) (.slice q c d)).run P w=.ok (x&&y) w:=by
 cases p with
 |none=>
  simp at f;subst f;simp[Op.equalIn,underlying,i,h]
 |some p=>
  simp at f;subst f;have k:y=true:=by simpa using g
  subst k;cases q with
  |some q=>simp at h
  |none=>simp[Op.equalIn,underlying,i]
theorem iB (t e:TypeId)(p q:Option Addr)(a b c d:Nat)(x y:Bool)(i:P.underlying t=some (.slice e))(g:p.isNone=x)(h:q.isNone=y)(f:x=true\/y=true):
  (Op.equal t (.slice p a b) (.slice q c d)).run P w=.ok (x&&y) w:=dB 9999 t e p q a b c d x y i g h f
theorem eQ (c:Bool)(t u e:TypeId)(x y:Operand)(j:Operand->Value)(o:Oper)(D:o.op=.binOp (if c then .neq else .eql) t x y u)(G:P.underlying t=some (.slice e))
  (k l:DV) (H:XC w O μ h (j x) k) (I:XC w O μ h (j y) l) (r:W5) (f:VS c [k,l]=some r) (v:X4 w O μ h):
  VI O w μ h n ((execOp j o).run P w) r:=by
 cases k with
 |agg _=>simp[VS]at f
 |XY _=>simp[VS]at f
 |one z=>
 cases l with
 |agg _=>simp[VS]at f
 |XY _=>simp[VS]at f
 |one A=>
 simp only[VS]at f;cases d:qO c z A with
 |none=>simp[d]at f
 |some L=>
 simp only[d,Za]at f;subst f;have key:∀(a b:Bool),z.isNil=some a->A.isNil=some b->(a=true\/b=true)->(execOp j o).run P w=.ok (.value (.bool ((a&&b)!=c))) w:=by
  intro a b g i m;obtain⟨p,J,B,e1,E⟩:=jD H g;obtain⟨q,K,C,e2,F⟩:=jD I i;simp only[execOp,D];refine Wy ?_;rw[Sem.run_bind,e1,e2,N2];have s:=iB (w:=w) t e p q J B K C a b G E F m;cases c
  ·simp only[Result.andThen,binOp,Sem.run_bind,s,if_false,Zz];simp[pure]
  ·simp only[Result.andThen,binOp,Sem.run_bind,s,if_true];simp[pure]
 unfold qO at d;split at d
 ·rename_i b g i;simp only[Za]at d;subst d;refine X8 v (key _ _ g i (.inl rfl)) ?_;simpa using XC.bool _
 ·rename_i g i;simp only[Za]at d;subst d;refine X8 v (key _ _ g i (.inr rfl)) ?_;have :((false&&true)!=c)=c:=by cases c<;>rfl
  rw[this];exact XC.bool _
 ·simp at d
theorem Oj {k:IntKind}:∀{g e:List DL} {b:Bool},Wk k g e=some b->∀{m j:List Value},XF (XP w O μ h) m g->XF (XP w O μ h) j e->
  ∃as i:List Int,m=as.map (Value.int k)/\j=i.map (Value.int k)/\as.length=i.length/\b=(as==i):=by
 intro g;induction g with
 |nil=>
  intro e b d m j t o;cases e with
  |nil=>simp[Wk]at d;subst d;cases t;cases o;exact⟨[],[],rfl,rfl,rfl,rfl⟩
  |cons y e=>simp[Wk]at d
 |cons x g D=>
  intro e b d m j t o;cases x with
  |own _ _ _ _=>simp[Wk]at d
  |ptr _ _ _ _=>simp[Wk]at d
  |fn _ _=>simp[Wk]at d
  |mp _=>simp[Wk]at d
  |p l=>
  cases l with
  |bool _=>simp[Wk]at d
  |XJ=>simp[Wk]at d
  |Xv _=>simp[Wk]at d
  |ref _=>simp[Wk]at d
  |fn _ _=>simp[Wk]at d
  |str _=>simp[Wk]at d
  |RJ=>simp[Wk]at d
  |int E a=>
  cases e with
  |nil=>simp[Wk]at d
  |cons y e=>
  cases y with
  |own _ _ _ _=>simp[Wk]at d
  |ptr _ _ _ _=>simp[Wk]at d
  |fn _ _=>simp[Wk]at d
  |mp _=>simp[Wk]at d
  |p l=>
  cases l with
  |bool _=>simp[Wk]at d
  |XJ=>simp[Wk]at d
  |Xv _=>simp[Wk]at d
  |ref _=>simp[Wk]at d
  |fn _ _=>simp[Wk]at d
  |str _=>simp[Wk]at d
  |RJ=>simp[Wk]at d
  |int F c=>
  simp only[Wk]at d;obtain⟨B,f⟩:=XX d;clear d;rw[Zp,VG,VG]at B;obtain⟨z,A⟩:=B;have z:=z.symm;subst z;have A:=A.symm;subst A;cases n:Wk k g e with
  |none=>simp[n]at f
  |some r=>
  simp only[n,Za]at f;cases t with
  |cons u v=>cases o with
   |cons q s=>
    obtain⟨as,i,rfl,rfl,C,rfl⟩:=D n v s;have e1:=XC.WV (u:XC w O μ h _ (.one _));have e2:=XC.WV (q:XC w O μ h _ (.one _));refine⟨a::as,c::i,by rw[e1];rfl,by rw[e2];rfl,by simp[C],?_⟩;rw[<-f,gx];rfl
theorem sk (c:Bool)(D:Array Operand)(B:Operand->Value)(o:Oper)(Q:Array TypeId)(M:o.op=.call ⟨.builtin (if c then .min else .max),D,Q⟩)
  (s:List DV) (x:XF (fun y d=>XC w O μ h (B y) d) D.toList s) (r:W5) (t:RD (if c then(fun a b=>T5 b a)else T5) s=some r) (N:X4 w O μ h):VI O w μ h n ((execOp B o).run P w) r:=by
 have u:∀(m:List Value) (s:List DV) (k:IntKind) (a:Int) (d:DV),XF (XC w O μ h) m s->maxD (if c then(fun a b=>T5 b a)else T5) k a s=some d->
   ∃v,(List.foldlM (if c then Builtin.min2 else Builtin.max2) (Value.int k a) m).run P w=.ok v w/\XC w O μ h v d:=by
  intro m s;induction s generalizing m with
  |nil=>
   intro k a d J g;cases J;simp only[maxD,Za]at g;subst g;exact⟨.int k a,by simp,XC.int _ _⟩
  |cons y T L=>
   intro k a d J g;cases y with
   |agg _=>simp[maxD]at g
   |XY _=>simp[maxD]at g
   |one l=>
   cases l with
   |own _ _ _ _=>simp[maxD]at g
   |ptr _ _ _ _=>simp[maxD]at g
   |fn _ _=>simp[maxD]at g
   |mp _=>simp[maxD]at g
   |p l=>
   cases l with
   |bool _=>simp[maxD]at g
   |XJ=>simp[maxD]at g
   |Xv _=>simp[maxD]at g
   |ref _=>simp[maxD]at g
   |fn _ _=>simp[maxD]at g
   |str _=>simp[maxD]at g
   |RJ=>simp[maxD]at g
   |int R b=>
   simp only[maxD]at g;obtain⟨I,H⟩:=XX g;clear g;have I:=(VG _ _).1 I;subst I;cases J with
   |cons E F=>
    obtain⟨v,f,j⟩:=L _ k _ d F H;refine⟨v,?_,j⟩;have e:=E.WV;rw[List.foldlM_cons,Sem.run_bind,e];have step:((if c then Builtin.min2 else Builtin.max2) (Value.int k a) (Value.int k b)).run P w=.ok (.int k (bif(if c then(fun a b=>T5 b a)else T5) a b then b else a)) w:=by
     cases c<;>simp[Builtin.min2,Builtin.max2,lj,Bool.cond_decide]
    rw[step];exact f
 unfold RD at t;split at t
 ·rename_i k a m;generalize z:D.toList=xl at x;cases x with
  |cons E F=>
   rename_i S A;cases C:maxD (if c then(fun a b=>T5 b a)else T5) k a m with
   |none=>simp[C]at t
   |some d=>
   simp only[C,Za]at t;subst t;have G:XF (XC w O μ h) (A.map B) m:=by
    clear C z;induction F with
    |nil=>exact .nil
    |cons q _ L=>exact .cons q L
   obtain⟨v,f,j⟩:=u _ m k a d G C;refine X8 N ?_ j;have K:=E.WV;have i:(D.map B).toList=Value.int k a::A.map B:=by rw[Array.toList_map,z];simp[K]
   cases c
   ·simp only[execOp,M,resolve,Zz,if_false];simp only[Sem.run_bind,pure,Sem.run,Result.andThen,invoke,builtin,Builtin.max_,i];simp only[Zz,if_false]at f;rw[f]
   ·simp only[execOp,M,resolve,if_true];simp only[Sem.run_bind,pure,Sem.run,Result.andThen,invoke,builtin,Builtin.min_,i];simp only[if_true]at f;rw[f]
 ·simp at t
theorem NX (f:Nat)(a:Array Operand)(e:Operand->Value)(o:Oper)(k:(Nat.blt f NL=true/\o.op=.makeFunc (.func f) #[] a)\/(Nat.blt f NL=false/\o.op=.makeFunc (.func (f-NL)) a #[]))
  (c:List DV) (q:XF (fun y d=>XC w O μ h (e y) d) a.toList c) (r:W5) (g:Uj f c=some r) (B:X4 w O μ h):VI O w μ h n ((execOp e o).run P w) r:=by
 unfold Uj at g;cases t:Xt qL c with
 |none=>simp[t]at g
 |some j=>
 simp only[t,Za]at g;subst g;have key:∀(p:List Operand) (c:List DV) (j:List DL),XF (fun y d=>XC w O μ h (e y) d) p c->Xt qL c=some j->XF (XP w O μ h) (p.map e) j:=by
  intro p c j D;induction D generalizing j with
  |nil=>intro b;simp[Xt]at b;subst b;exact .nil
  |@cons y d p c A _ F=>
   intro b;simp only[Xt]at b;cases d with
   |agg _=>simp[qL]at b
   |XY _=>simp[qL]at b
   |one l=>
    simp only[qL]at b;cases u:Xt qL c with
    |none=>simp[u]at b
    |some H=>
     simp only[u,Za]at b;subst b;exact .cons A (F _ u)
 have x:=key _ _ _ q t;have z:(a.map e)=(a.toList.map e).toArray:=by apply Array.ext';simp
 refine X8 (v:=vX f (a.toList.map e)) B ?_ ?_
 ·rcases k with⟨s,k⟩|⟨s,k⟩
  ·simp only[execOp,k,vX,s,cond_true,<-z];exact Wy (by simp[Instr.makeFunc])
  ·simp only[execOp,k,vX,s,cond_false,<-z];exact Wy (by simp[Instr.makeFunc])
 ·exact XP.fn f j _ x.length fun i d v C E=>by
   obtain⟨G,m,g⟩:=x.get i d C;rw[E]at m;cases m;exact g
end
end Go.Ev
namespace Go.Ev
section
variable {P:Program}{O:BS}{w:World}{μ:Nat->Nat}{h:HF}{n:Nat}
theorem Pa (e:TypeId)(k:IntKind)(d:P.underlying e=some (.int k))(as:List Int)(j:Nat)(a:Int)(c:as[j]? =some a):
  (part e (as.map (Value.int k)).toArray j).run P w=.ok (.int k a) w:=by
 have b:(isAgg e).run P w=.ok false w:=by simp[isAgg,underlying,d]
 simp[part,Sem.run_bind,b,Result.andThen,c]
theorem Qy (d:Nat)(e:TypeId)(k:IntKind)(b:P.underlying e=some (.int k))(as a:List Int)(j:as.length=a.length):∀(m s:Nat),s+m=as.length->
  (Op.eqItems (d+1) e 1 (as.map (Value.int k)).toArray (a.map (Value.int k)).toArray (List.range' s m)).run P w=.ok (as.drop s==a.drop s) w:=by
 intro m;induction m with
 |zero=>
  intro s h;rw[Zj (by omega),Zj (by omega)];simp[Op.eqItems]
 |succ m i=>
  intro s h;have c:s<as.length:=by omega
  have f:s<a.length:=by omega
  rw[List.range'_succ];simp only[Op.eqItems,Yf,Sem.run_bind,Pa e k b as s _ (Zg c),Pa e k b a s _ (Zg f),Result.andThen_ok];have g:(Op.equalIn (d+1) e (.int k as[s]) (.int k a[s])).run P w=.ok (as[s]==a[s]) w:=by
   simp[Op.equalIn,underlying,b]
  rw[g];simp only[Result.andThen_ok];rw[Z7 c,Z7 f];rw[show((as[s]::as.drop (s+1))==(a[s]::a.drop (s+1)))=((as[s]==a[s])&&(as.drop (s+1)==a.drop (s+1)))from rfl];cases(as[s]==a[s])
  ·simp only[Bool.not_false,if_true,Bool.false_and,Sem.run_pure]
  ·simp only[Bool.not_true,Zz,if_false,Bool.true_and];exact i (s+1) (by omega)
theorem run_eqGuard_agg (a:BinOp)(t:TypeId)(x y:Operand)(c d:Array Value)(b:P.eqGuardType P.depth t=false):(eqGuard a t x y (.agg c) (.agg d)).run P w=.ok () w:=by
 cases a<;>simp[eqGuard,go_sem,b]
theorem eR (a:Bool)(t u e:TypeId)(k:IntKind)(m:Nat)(i:TypeInfo)(x y:Operand)(q:Operand->Value)(o:Oper)(K:o.op=.binOp (if a then .neq else .eql) t x y u)(M:P.underlying t=some (.array m e))
  (H:P.underlying e=some (.int k)) (B:P.info? e=some i) (L:i.size=1) (I:P.eqGuardType P.depth t=false)
  (s z:DV) (N:XC w O μ h (q x) s) (Q:XC w O μ h (q y) z) (r:W5) (d:Vl a k m [s,z]=some r) (E:X4 w O μ h):
  VI O w μ h n ((execOp q o).run P w) r:=by
 unfold Vl at d;split at d
 ·rename_i R S f;simp only[ZF,and_true]at f;obtain⟨rfl,rfl⟩:=f;obtain⟨c,d⟩:=XX d;have c:=Zm c;cases l:Wk k R S with
  |none=>simp[l]at d
  |some b=>
  simp only[l,Za]at d;subst d;obtain⟨U,C,g⟩:=N;obtain⟨T,D,p⟩:=Q;obtain⟨as,j,rfl,rfl,J,rfl⟩:=Oj l g p;have F:as.length=m:=by have:=g.length;simp at this;omega
  have G:P.cellsOf e=1:=by simp[Program.cellsOf,B,L]
  have A:(Op.equal t (.agg (as.map (Value.int k)).toArray) (.agg (j.map (Value.int k)).toArray)).run P w=.ok (as==j) w:=by
   show(Op.equalIn (9999+1) t _ _).run P w=_;rw[run_equalIn_array w 9999 _ _ M B,G,List.range_eq_range'];have:=Qy (P:=P) (w:=w) 9998 e k H as j J m 0 (by omega);simpa using this
  refine X8 (v:=.bool ((as==j)!=a)) E ?_ (XC.bool _);simp only[execOp,K];refine Wy ?_;rw[Sem.run_bind,C,D,run_eqGuard_agg _ _ _ _ _ _ I];cases a
  ·simp only[Result.andThen,binOp,Sem.run_bind,A,if_false,Zz];simp[pure]
  ·simp only[Result.andThen,binOp,Sem.run_bind,A,if_true];simp[pure]
 ·simp at d
theorem fL {v:Value}{l:PL}(a:iF v=some l)(L:BS):WE w L v l:=by
 unfold iF at a;split at a<;>simp only[Za,reduceCtorEq]at a<;>subst a
 ·exact .bool _
 ·exact .int _ _
 ·exact .XJ
 ·exact .str _
 ·exact .RJ _ rfl
 ·exact .RJ _ rfl
 ·exact .RJ _ rfl
theorem QG {e g:Type}{f:e->Option g}{R:e->g->Prop}(h:∀x y,f x=some y->R x y):∀{b:List e} {c:List g},Xt f b=some c->XF R b c
 |[],c,hm=>by simp[Xt]at hm;subst hm;exact .nil
 |x::b,c,hm=>by
  simp only[Xt]at hm;cases d:f x with
  |none=>simp[d]at hm
  |some y=>
   simp only[d]at hm;cases a:Xt f b with
   |none=>simp[a]at hm
   |some i=>
    simp only[a,Za]at hm;subst hm;exact .cons (h _ _ d) (QG h a)
theorem UF {t:TypeId}{z:List PL}(b:zeroOf P t=some z):∃i d,P.info? t=some i/\i.zero=some d/\z.length=i.size/\d.cells.size=i.size/\(∀h:World,(zeroValue t).run P h=.ok d h)/\
  ∀(h:World) (n:BS) (j:Nat->Nat) (o:HF),XF (XP h n j o) d.cells.toList (z.map .p):=by
 unfold zeroOf at b;cases m:P.info? t with
 |none=>simp[m]at b
 |some i=>
 simp only[m]at b;cases c:i.zero with
 |none=>simp[c]at b
 |some d=>
 simp only[c]at b;cases k:Xt iF d.cells.toList with
 |none=>simp[k]at b
 |some q=>
 simp only[k]at b;split at b<;>simp only[Za,reduceCtorEq]at b;subst b;rename_i a;have f:q.length=i.size:=by simpa using a
 clear a;have g:XF (fun v l=>iF v=some l) d.cells.toList q:=QG (fun _ _ e=>e) k;refine⟨i,d,rfl,c,f,by have:=g.length;simp at this;omega,fun h=>by simp[zeroValue,typeInfo,m,c],fun h n j o=> ?_⟩;clear k f;generalize d.cells.toList=vs at g;induction g with
 |nil=>exact .nil
 |cons r _ s=>exact .cons (.p _ _ (fL r _)) s
theorem jK:∀(c:List Value) (b:Array Value) (a s:Nat),a+s+c.length<=b.size->
  ((c.zipIdx s).foldl (fun(b:Array Value) (x:Value×Nat)=>b.setIfInBounds (a+x.2) x.1) b).toList=b.toList.take (a+s)++c++b.toList.drop (a+s+c.length)
 |[],b,a,s,_=>by simp
 |v::c,b,a,s,hle=>by
  simp only[Zi]at hle;rw[List.zipIdx_cons,List.foldl_cons,jK c _ a (s+1) (by simp;omega)];have e1:a+(s+1)=(a+s)+1:=by omega
  have d:a+s<b.toList.length:=by simp;omega
  rw[Array.toList_setIfInBounds,e1,List.take_succ_eq_append_getElem (by simp;omega),List.take_set_of_le (by omega),List.drop_set_of_lt (by omega)];simp;omega
theorem bV (i:Nat->Option (Nat×Nat)):∀(parts:List (Nat×Value)) (b:List (Nat×Nat)) (o:List DV) (a:Array Value) (k f:List DL),
  XF (fun p q=>i p.1=some q) parts b->XF (fun p d=>XC w O μ h p.2 d) parts o->XF (XP w O μ h) a.toList k->PC k b o=some f->
  ∃c,Instr.fill i a parts=some c/\XF (XP w O μ h) c.toList f:=by
 intro parts;induction parts with
 |nil=>
  intro b o a k f r s u j;cases r;cases s;simp only[PC,Za]at j;subst j;exact⟨a,by simp[Instr.fill],u⟩
 |cons p parts K=>
  intro b o a k f r s u j;obtain⟨L,v⟩:=p;cases r with
  |@cons _ q _ b E r=>
  cases s with
  |@cons _ d _ o D s=>
  obtain⟨e,G⟩:=q;simp only at E D;simp only[PC]at j;cases m:d.cells with
  |none=>simp[m]at j
  |some H=>
  simp only[m]at j;obtain⟨A,j⟩:=XX j;rw[Zp]at A;have C:=Zm A.1;have I:=WS A.2;have F:=D.cells m;have z:=F.length;have B:=u.length;simp only[YA]at z B;have g:=jK v.cells.toList a e 0 (by simp;omega);simp only[Z3,YA]at g;have y:XF (XP w O μ h) ((v.cells.toList.zipIdx 0).foldl (fun(k:Array Value) (x:Value×Nat)=>k.setIfInBounds (e+x.2) x.1) a).toList (k.take e++H++k.drop (e+G)):=by
   rw[g,<-C,<-z];exact((u.take e).append F).append (u.drop _)
  obtain⟨c,n,t⟩:=K b o _ _ f r s y j;refine⟨c,?_,t⟩;have l:(decide (v.cells.size≠G)||decide (e+v.cells.size>a.size))=false:=by simp;omega
  rw[Instr.fill,E];simp only[l,Zz,if_false];have J:v.cells.zipIdx=(v.cells.toList.zipIdx 0).toArray:=by apply Array.ext';simp
  rw[J];simpa using n
theorem iX (t:TypeId)(z:List PL)(b:List (Nat×Nat))(parts:Array (Nat×Operand))(L:Operand->Value)(o:Oper)(ho:o.op=.build t parts)(hz:zeroOf P t=some z)
  (Y:(∃N D,P.underlying t=some (.struct N)/\Xt (fun f:Field=>match Wq P f.type with |some s=>some (f.offset,s)|none=>none) N.toList=some D/\Xt (fun x:Nat×Operand=>D[x.1]?) parts.toList=some b)\/
   (∃m e s,P.underlying t=some (.array m e)/\Wq P e=some s/\b=parts.toList.map fun x=>(x.1*s,s)))
  (M:List DV) (E:XF (fun y d=>XC w O μ h (L y.2) d) parts.toList M) (r:W5) (Q:Ph z b M=some r) (X:X4 w O μ h):VI O w μ h n ((execOp L o).run P w) r:=by
 unfold Ph at Q;cases H:PC (z.map .p) b M with
 |none=>simp[H]at Q
 |some cs=>
 simp only[H,Za]at Q;subst Q;obtain⟨i,Z,hi,a2,a0,a1,K,B⟩:=UF hz;have A:XF (fun(p:Nat×Value) d=>XC w O μ h p.2 d) (parts.map fun(x:Nat×Operand)=>(x.1,L x.2)).toList M:=by
  rw[Array.toList_map];generalize parts.toList=D at E;clear Y H;induction E with
  |nil=>exact .nil
  |cons q _ G=>exact .cons q G
 simp only[execOp,ho];rcases Y with⟨N,D,W,V,J⟩|⟨m,e,s,W,S,rfl⟩
 ·have c:XF (fun(p:Nat×Value) q=>(fun x=>D.toArray[x]?) p.1=some q) (parts.map fun(x:Nat×Operand)=>(x.1,L x.2)).toList b:=by
   rw[Array.toList_map];have:=QG (R:=fun(x:Nat×Operand) q=>D[x.1]? =some q) (fun _ _ e=>e) J;clear H J E A;generalize parts.toList=pt at this;induction this with
   |nil=>exact .nil
   |cons q _ G=>exact .cons (by simpa using q) G
  obtain⟨a,j,u⟩:=bV (fun x=>D.toArray[x]?) _ _ _ Z.cells _ _ c A (B _ _ _ _) H;have I:(Array.mapM (fun f:Field=>do pure (f.offset,<-Go.sizeOf f.type)) N:Sem (Array (Nat×Nat))).run P w=.ok D.toArray w:=by
   have T:∀(l:List Field) (q:List (Nat×Nat)),Xt (fun f:Field=>match Wq P f.type with |some s=>some (f.offset,s)|none=>none) l=some q->(List.mapM (fun f:Field=>(do pure (f.offset,<-Go.sizeOf f.type):Sem (Nat×Nat))) l).run P w=.ok q w:=by
    intro l;induction l with
    |nil=>intro q C;simp[Xt]at C;subst C;simp
    |cons f l G=>
     intro q C;simp only[Xt]at C;cases k:Wq P f.type with
     |none=>simp[k]at C
     |some s=>
      simp only[k]at C;cases U:Xt (fun f:Field=>match Wq P f.type with |some s=>some (f.offset,s)|none=>none) l with
      |none=>simp[U]at C
      |some q'=>
       simp only[U,Za]at C;subst C;have F:(Go.sizeOf f.type).run P w=.ok s w:=by
        unfold Wq at k;cases g:P.info? f.type with
        |none=>simp[g]at k
        |some fi=>simp only[g,ZU,Za]at k;subst k;simp[Go.sizeOf,typeInfo,g]
       simp only[List.mapM_cons,Sem.run_bind,F,Result.andThen_ok,G _ U,Sem.run_pure]
   rw[Array.mapM_eq_mapM_toList,Sem.run_map];rw[T _ _ V];rfl
  refine X8 (v:=.agg a) X (Wy ?_) ⟨a.toList,by simp,u⟩;simp only[Instr.build,Sem.run_bind,K,Result.andThen_ok,run_underlying W,I,j,Sem.run_pure]
 ·have c:XF (fun(p:Nat×Value) q=>(fun x=>some (x*s,s)) p.1=some q) (parts.map fun(x:Nat×Operand)=>(x.1,L x.2)).toList (parts.toList.map fun x=>(x.1*s,s)):=by
   rw[Array.toList_map];generalize parts.toList=pt;induction pt with
   |nil=>exact .nil
   |cons q _ G=>exact .cons rfl G
  obtain⟨a,j,u⟩:=bV (fun x=>some (x*s,s)) _ _ _ Z.cells _ _ c A (B _ _ _ _) H;have F:(Go.sizeOf e).run P w=.ok s w:=by
   unfold Wq at S;cases g:P.info? e with
   |none=>simp[g]at S
   |some fi=>simp only[g,ZU,Za]at S;subst S;simp[Go.sizeOf,typeInfo,g]
  refine X8 (v:=.agg a) X (Wy ?_) ⟨a.toList,by simp,u⟩;simp only[Instr.build,Sem.run_bind,K,Result.andThen_ok,run_underlying W,F,j,Sem.run_pure]
end
end Go.Ev
