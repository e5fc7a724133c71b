/- Operations that leave the heap alone: what the model computes stands for what the interpreter computes. -/
import Derived.Test.YtidginchkjhobaaGreatEvRep
import Derived.ChangeKeysEq
namespace Go.Ev
def Sg (h:HF):List (Nat×Xx)->HF
 |[]=>h
 |(id,b)::ws=>Sg (fun x=>if x=id then some b else h x) ws
def RN (h:HF)(n:Nat):V'->HF
 |[]=>h
 |b::bs=>RN (fun x=>if x=n then some b else h x) (n+1) bs
def pL (h:HF)(n:Nat)(r:Va):HF:=RN (Sg h r.wr) n r.al
def V0 (O:BS)(w:World)(μ:Nat->Nat)(h:HF)(n:Nat)(res:Result Next)(r:Va):Prop:=
 ∃v w' μ',(res=.ok (.value v) w'\/(res=.ok .skip w'/\v=undef))/\XA w' O μ' (pL h n r) v r.val/\X3 w' O μ' (pL h n r)/\Wy O w μ h w' μ' (pL h n r)
section
variable {P:Program}{O:BS}{w:World}{μ:Nat->Nat}{h:HF}{n:Nat}
theorem WM {s:Sem Value}{v:Value}{a:World}(b:s.run P w=.ok v a):(do pure (Next.value (<-s)):Sem Next).run P w=.ok (.value v) a:=by
 simp[Sem.run_bind,b,Result.andThen,Sem.run,pure]
theorem X8 {v:Value}{d:DV}{a:Result Next}(b:X3 w O μ h)(c:a=.ok (.value v) w)(e:XA w O μ h v d):V0 O w μ h n a (.pure d):=
 ⟨v,w,μ,.inl c,e,b,Wy.refl _ _ _ _⟩
theorem Sj {v:Value}{d:DV}{f:P'}{a:Result Next}(b:X3 w O μ h)(c:a=.ok (.value v) w)(e:XA w O μ h v d):V0 O w μ h n a ⟨d,[],[],f⟩:=
 ⟨v,w,μ,.inl c,e,b,Wy.refl _ _ _ _⟩
theorem XA.W5 {v:Value}{k:IntKind}{a:Int}(r:XA w O μ h v (.one (.p (.int k a)))):v=.int k a:=by
 have r:XE w O μ h v (.p (.int k a)):=r;cases r with |p _ _ b=>cases b;rfl
theorem XA.Rs {v:Value}{b:Bool}(r:XA w O μ h v (.one (.p (.bool b)))):v=.bool b:=by
 have r:XE w O μ h v (.p (.bool b)):=r;cases r with |p _ _ a=>cases a;rfl
theorem XA.bP {v:Value}(r:XA w O μ h v (.one (.p .Xq))):v=.slice none 0 0:=by
 have r:XE w O μ h v (.p .Xq):=r;cases r with |p _ _ a=>cases a;rfl
theorem XA.int (k:IntKind)(a:Int):XA w O μ h (.int k a) (.one (.p (.int k a))):=XE.p _ _ (.int k a)
theorem XA.bool (b:Bool):XA w O μ h (.bool b) (.one (.p (.bool b))):=XE.p _ _ (.bool b)
theorem fD (c:BinOp)(t:TypeId)(x y:Operand)(k d:IntKind)(a b:Int):(eqGuard c t x y (.int k a) (.int d b)).run P w=.ok () w:=by
 cases c<;>simp[eqGuard,go_sem]
theorem di (c:BinOp)(t:TypeId)(x y:Operand)(a b:Bool):(eqGuard c t x y (.bool a) (.bool b)).run P w=.ok () w:=by
 cases c<;>simp[eqGuard,go_sem]
theorem bg (e:BinOp)(t:TypeId)(x y:Operand)(p q:Option Addr)(a b c d:Nat):(eqGuard e t x y (.slice p a b) (.slice q c d)).run P w=.ok () w:=by
 cases e<;>simp[eqGuard,go_sem]
theorem vB (n:BinOp)(t:TypeId)(k g:IntKind)(a b:Int)(d:DL)(e:Wx n k g a b=some d):
  ∃l,d=.p l/\∃v,(binOp n t (.int k a) (.int g b)).run P w=.ok v w/\Ws w (Live O μ h) v l:=by
 cases n with
 |shl=>
  simp only[Wx]at e;cases b with
  |negSucc m=>simp[aN]at e
  |ofNat m=>
   simp only[aN,SM,Za]at e;subst e;refine⟨_,rfl,.int k (k.wrap (a*2^(min m k.bits))),?_,?_⟩
   ·simp[binOp,Op.shift,go_sem]
   ·rw[Rk,r9];have :Int.ofNat (2^Nat.min m k.bits)=(2:Int)^(min m k.bits):=by simp
    rw[this];exact .int _ _
 |shr=>
  simp only[Wx]at e;cases b with
  |negSucc m=>simp[QX]at e
  |ofNat m=>
   simp only[QX,SM,Za]at e;subst e;refine⟨_,rfl,.int k (a.fdiv (2^(min m k.bits))),?_,?_⟩
   ·simp[binOp,Op.shift,go_sem]
   ·rw[Em,r9];exact .int _ _
 |quo=>
  simp only[Wx,V1,Tk,SM]at e;cases f:fH k g<;>simp only[f,cond_true,cond_false,reduceCtorEq]at e;have c:=(VY _ _).1 f;subst c;cases i:Oi b 0<;>simp only[i,cond_true,cond_false,reduceCtorEq,Za]at e;subst e;rw[dX]at i;have j:b≠0:=by simpa using i
  refine⟨_,rfl,.int k (k.wrap (a.tdiv b)),?_,?_⟩
  ·simp[binOp,Op.intDiv,go_sem,j]
  ·rw[Rk];exact .int _ _
 |rem=>
  simp only[Wx,V1,T5,SM]at e;cases f:fH k g<;>simp only[f,cond_true,cond_false,reduceCtorEq]at e;have c:=(VY _ _).1 f;subst c;cases i:Oi b 0<;>simp only[i,cond_true,cond_false,reduceCtorEq,Za]at e;subst e;rw[dX]at i;have j:b≠0:=by simpa using i
  refine⟨_,rfl,.int k (a.tmod b),?_,.int _ _⟩;simp[binOp,Op.intDiv,go_sem,j]
 |add=>
  simp only[Wx,V1,SM]at e;cases f:fH k g<;>simp only[f,cond_true,cond_false,reduceCtorEq,Za]at e;have c:=(VY _ _).1 f;subst c;subst e;exact⟨_,rfl,_,by simp[binOp,Op.intArith,Rk],.int _ _⟩
 |sub=>
  simp only[Wx,V1,SM]at e;cases f:fH k g<;>simp only[f,cond_true,cond_false,reduceCtorEq,Za]at e;have c:=(VY _ _).1 f;subst c;subst e;exact⟨_,rfl,_,by simp[binOp,Op.intArith,Rk],.int _ _⟩
 |mul=>
  simp only[Wx,V1,SM]at e;cases f:fH k g<;>simp only[f,cond_true,cond_false,reduceCtorEq,Za]at e;have c:=(VY _ _).1 f;subst c;subst e;exact⟨_,rfl,_,by simp[binOp,Op.intArith,Rk],.int _ _⟩
 |and=>
  simp only[Wx,V1,SM]at e;cases f:fH k g<;>simp only[f,cond_true,cond_false,reduceCtorEq,Za]at e;have c:=(VY _ _).1 f;subst c;subst e;exact⟨_,rfl,_,by rw[and_eq];simp only[binOp,ne_eq,not_true_eq_false,if_false,Op.intBits];rfl,.int _ _⟩
 |or=>
  simp only[Wx,V1,SM]at e;cases f:fH k g<;>simp only[f,cond_true,cond_false,reduceCtorEq,Za]at e;have c:=(VY _ _).1 f;subst c;subst e;exact⟨_,rfl,_,by rw[or_eq];simp only[binOp,ne_eq,not_true_eq_false,if_false,Op.intBits];rfl,.int _ _⟩
 |xor=>
  simp only[Wx,V1,SM]at e;cases f:fH k g<;>simp only[f,cond_true,cond_false,reduceCtorEq,Za]at e;have c:=(VY _ _).1 f;subst c;subst e;exact⟨_,rfl,_,by rw[xor_eq];simp only[binOp,ne_eq,not_true_eq_false,if_false,Op.intBits];rfl,.int _ _⟩
 |andNot=>
  simp only[Wx,V1,SM]at e;cases f:fH k g<;>simp only[f,cond_true,cond_false,reduceCtorEq,Za]at e;have c:=(VY _ _).1 f;subst c;subst e;exact⟨_,rfl,_,by rw[Ax];simp only[binOp,ne_eq,not_true_eq_false,if_false,Op.intBits];rfl,.int _ _⟩
 |eql=>
  simp only[Wx,V1,SC]at e;cases f:fH k g<;>simp only[f,cond_true,cond_false,reduceCtorEq,Za]at e;have c:=(VY _ _).1 f;subst c;subst e;exact⟨_,rfl,_,by simp[binOp,Op.intCmp,dX],.bool _⟩
 |neq=>
  simp only[Wx,V1,SC]at e;cases f:fH k g<;>simp only[f,cond_true,cond_false,reduceCtorEq,Za]at e;have c:=(VY _ _).1 f;subst c;subst e;exact⟨_,rfl,_,by simp[binOp,Op.intCmp,dX,bne],.bool _⟩
 |lss=>
  simp only[Wx,V1,SC]at e;cases f:fH k g<;>simp only[f,cond_true,cond_false,reduceCtorEq,Za]at e;have c:=(VY _ _).1 f;subst c;subst e;exact⟨_,rfl,_,by simp[binOp,Op.intCmp,ov],.bool _⟩
 |leq=>
  simp only[Wx,V1,SC]at e;cases f:fH k g<;>simp only[f,cond_true,cond_false,reduceCtorEq,Za]at e;have c:=(VY _ _).1 f;subst c;subst e;exact⟨_,rfl,_,by simp[binOp,Op.intCmp,Co],.bool _⟩
 |gtr=>
  simp only[Wx,V1,SC]at e;cases f:fH k g<;>simp only[f,cond_true,cond_false,reduceCtorEq,Za]at e;have c:=(VY _ _).1 f;subst c;subst e;exact⟨_,rfl,_,by simp[binOp,Op.intCmp,ov],.bool _⟩
 |geq=>
  simp only[Wx,V1,SC]at e;cases f:fH k g<;>simp only[f,cond_true,cond_false,reduceCtorEq,Za]at e;have c:=(VY _ _).1 f;subst c;subst e;exact⟨_,rfl,_,by simp[binOp,Op.intCmp,Co],.bool _⟩
theorem Ej (f:BinOp)(t u:TypeId)(x y:Operand)(i:Operand->Value)(o:Oper)(B:o.op=.binOp f t x y u)
  (j m:DV) (E:XA w O μ h (i x) j) (F:XA w O μ h (i y) m) (r:Va) (c:iR f [j,m]=some r) (A:X3 w O μ h):
  V0 O w μ h n ((execOp i o).run P w) r:=by
 unfold iR at c;split at c
 ·rename_i k a q b e;simp only[ZH,and_true]at e;obtain⟨rfl,rfl⟩:=e;cases g:Wx f k q a b with
  |none=>simp[g]at c
  |some d=>
  simp only[g,Za]at c;subst c;have s:=E.W5;have z:=F.W5;obtain⟨l,rfl,v,D,C⟩:=vB (P:=P) (w:=w) (O:=O) (μ:=μ) (h:=h) f t k q a b d g;refine X8 (v:=v) A ?_ (XE.p _ _ C);simp only[execOp,B];exact WM (by simp[Sem.run_bind,s,z,fD,Result.andThen,D])
 ·simp at c
theorem qE (c:Bool)(t u:TypeId)(x y:Operand)(f:Operand->Value)(o:Oper)(p:o.op=.binOp (if c then .neq else .eql) t x y u)(j:P.underlying t=some .bool)
  (g i:DV) (q:XA w O μ h (f x) g) (s:XA w O μ h (f y) i) (r:Va) (e:au c [g,i]=some r) (m:X3 w O μ h):
  V0 O w μ h n ((execOp f o).run P w) r:=by
 unfold au at e;split at e
 ·rename_i a b d;simp only[ZH,and_true]at d;obtain⟨rfl,rfl⟩:=d;simp only[Za]at e;subst e;have k:=q.Rs;have l:=s.Rs;refine X8 (v:=.bool ((a==b)!=c)) m ?_ (XA.bool _);simp only[execOp,p];refine WM ?_;rw[Sem.run_bind,k,l,di];cases c
  ·simp only[Result.andThen,binOp,Sem.run_bind,run_equal_bool w t a b j,if_false,Zy];simp[pure]
  ·simp only[Result.andThen,binOp,Sem.run_bind,run_equal_bool w t a b j,if_true];simp[pure]
 ·simp at e
end
end Go.Ev
namespace Go.Ev
section
variable {P:Program}{O:BS}{w:World}{μ:Nat->Nat}{h:HF}{n:Nat}
theorem UN (b o k:Nat):(⟨b,o,none⟩:Addr).add k=⟨b,o+k,none⟩:=by
 unfold Addr.add;split<;>simp_all
theorem XA.Ff {v:Value}{a:P'}(r:XA w O μ h v (.one (.p (.str a)))):∃s:ByteArray,v=.string s/\a=s.data.toList.map UInt8.toNat:=by
 have r:XE w O μ h v (.p (.str a)):=r;cases r with |p _ _ b=>cases b;exact⟨_,rfl,rfl⟩
theorem XA.fZ {v:Value}{e:N'}(r:XA w O μ h v (.one (.p (.ref e)))):∃b c,v=.pointer (some ⟨b,c,none⟩)/\∃a:Nat->Value,(∀(j:Nat) (d:PL),e[j]? =some d->¬Live O μ h b)/\
  (∀(j:Nat) (d:PL),e[j]? =some d->w.cell? ⟨b,c+j,none⟩=some (a j))/\(∀(j:Nat) (d:PL),e[j]? =some d->Ws w (Live O μ h) (a j) d):=by
 have r:XE w O μ h v (.p (.ref e)):=r;cases r with |p _ _ i=>cases i with |ref b c _ a g f k=>exact⟨b,c,rfl,a,g,f,k⟩
theorem XA.bQ {v:Value}{f:I'}(r:XA w O μ h v (.one (.p (.Xn f)))):∃b g l e n,v=.slice (some ⟨b,g,n⟩) f.length e/\(f=[]\/n=none)/\f.length<=e/\
  (∀(i:Nat) (c:N'),f[i]? =some c->c.length=l)/\∃a:Nat->Nat->Value,(∀(i:Nat) (c:N') (j:Nat) (d:PL),f[i]? =some c->c[j]? =some d->¬Live O μ h b)/\
  (∀(i:Nat) (c:N') (j:Nat) (d:PL),f[i]? =some c->c[j]? =some d->w.cell? ⟨b,g+i*l+j,none⟩=some (a i j))/\(∀(i:Nat) (c:N') (j:Nat) (d:PL),f[i]? =some c->c[j]? =some d->Ws w (Live O μ h) (a i j) d):=by
 have r:XE w O μ h v (.p (.Xn f)):=r;cases r with |p _ _ s=>cases s with |Xn b g l e _ a q k u o t m=>exact⟨b,g,l,e,_,rfl,m,k,u,a,q,o,t⟩
theorem XA.Rh {v:Value}{id XM d c:Nat}(r:XA w O μ h v (.one (.own id XM d c))):∃b g o a,v=.slice (some ⟨g,o,none⟩) c a/\h id=some b/\XM<=b.XM/\c<=a/\
  (XM=b.XM->g=μ id/\∃(C:Array Value) (T:TypeId),w.heap[μ id]? =some (.cells C T (0,0))/\((o=d*b.sz/\(d+a)*b.sz=C.size/\a<=maxLen)\/(c=0/\a=0/\0<d))):=by
 have r:XE w O μ h v (.own id XM d c):=r;cases r with |own _ _ _ _ b g o a e j f i=>exact⟨b,g,o,a,rfl,e,j,f,i⟩
theorem XA.P0 {v:Value}{id XM i a:Nat}(r:XA w O μ h v (.one (.ptr id XM i a))):∃b g o,v=.pointer (some ⟨g,o,none⟩)/\h id=some b/\XM<=b.XM/\(XM=b.XM->g=μ id/\o=i*b.sz+a):=by
 have r:XE w O μ h v (.ptr id XM i a):=r;cases r with |ptr _ _ _ _ b g o c e d=>exact⟨b,g,o,rfl,c,e,d⟩
theorem qA (x:Operand)(d:Operand->Value)(o:Oper)(a:o.op=.move x\/o.op=.assign x)(b:DV)(f:XA w O μ h (d x) b)(r:Va)(c:ao [b]=some r)(e:X3 w O μ h):
  V0 O w μ h n ((execOp d o).run P w) r:=by
 simp only[ao,Za]at c;subst c;refine X8 e ?_ f;rcases a with a|a<;>simp[execOp,a]
theorem nQ (x:Operand)(j:Operand->Value)(o:Oper)(s:o.op=.nilCheck x)(z:DV)(d:XA w O μ h (j x) z)(r:Va)(t:S1 [z]=some r)(m:X3 w O μ h):
  V0 O w μ h n ((execOp j o).run P w) r:=by
 unfold S1 at t;split at t<;>simp only[reduceCtorEq,Za]at t<;>subst t<;>rename_i l<;>simp only[ZH,and_true]at l<;>subst l
 ·obtain⟨b,g,q,e,_⟩:=d.P0;exact X8 m (by simp[execOp,s,e]) d
 ·obtain⟨b,q,e,_⟩:=d.fZ;exact X8 m (by simp[execOp,s,e]) d
 ·have c:XE w O μ h (j x) (.fn _ _):=d;generalize y:j x=v at c;cases c with
  |fn f k u B A=>obtain⟨g,a,b,e⟩:=mN _ u;have i:=y.trans e;exact X8 m (by simp[execOp,s,i]) d
 ·have c:XE w O μ h (j x) (.p (.fn _ _)):=d;generalize y:j x=v at c;cases c with
  |p _ _ C=>cases C with
   |fn f k u B A=>obtain⟨g,a,b,e⟩:=mN _ u;have i:=y.trans e;exact X8 m (by simp[execOp,s,i]) d
theorem A6 (c x y:Operand)(f:Operand->Value)(o:Oper)(l:o.op=.pick c x y)(g i j:DV)(m:XA w O μ h (f c) g)(s:XA w O μ h (f x) i)(t:XA w O μ h (f y) j)(r:Va)
  (d:ak [g,i,j]=some r) (k:X3 w O μ h):V0 O w μ h n ((execOp f o).run P w) r:=by
 unfold ak at d;split at d
 ·rename_i b p q a;simp only[ZH,and_true]at a;obtain⟨rfl,rfl,rfl⟩:=a;simp only[Za]at d;subst d;have e:=m.Rs;cases b
  ·exact X8 k (by simp[execOp,l,e,asBool]) t
  ·exact X8 k (by simp[execOp,l,e,asBool]) s
 ·simp at d
theorem Ba (s d:TypeId)(k:IntKind)(x:Operand)(g:Operand->Value)(o:Oper)(l:o.op=.convert s d x)(m:∃u,P.underlying s=some u)(j:P.underlying d=some (.int k))(f:DV)(q:XA w O μ h (g x) f)(r:Va)
  (c:ar k [f]=some r) (i:X3 w O μ h):V0 O w μ h n ((execOp g o).run P w) r:=by
 unfold ar at c;split at c
 ·rename_i t a b;simp only[ZH,and_true]at b;subst b;simp only[Za]at c;subst c;have e:=q.W5;obtain⟨u,p⟩:=m;rw[Rk];refine X8 i ?_ (XA.int _ _);simp only[execOp,l];exact WM (by simp[convert,underlying,p,j,e,Conv.intToInt,Sem.run_bind,Result.andThen,go_sem])
 ·simp at c
theorem GY (g:UnOp)(t:TypeId)(x:Operand)(q:Operand->Value)(o:Oper)(m:o.op=.unOp g t x)(i:DV)(p:XA w O μ h (q x) i)(r:Va)
  (f:iQ g [i]=some r) (j:X3 w O μ h):V0 O w μ h n ((execOp q o).run P w) r:=by
 cases i with
 |agg _=>simp[iQ]at f
 |X9 _=>simp[iQ]at f
 |one l=>
 simp only[iQ]at f;cases c:H9 g l with
 |none=>simp[c]at f
 |some d=>
 simp only[c,Za]at f;subst f;unfold H9 at c;split at c
 ·rename_i k a;have e:=p.W5;cases g<;>simp only[reduceCtorEq,Za]at c<;>subst c
  ·rw[Rk];refine X8 j ?_ (XA.int _ _);simp only[execOp,m];exact WM (by simp[Op.unary,e,Op.intArith])
  ·rw[AO];refine X8 j ?_ (XA.int _ _);simp only[execOp,m];exact WM (by simp only[Op.unary,e,Op.intBits];rfl)
 ·rename_i b;have e:=p.Rs;cases g<;>simp only[reduceCtorEq,Za]at c<;>subst c;refine X8 j ?_ (XA.bool _);simp only[execOp,m];exact WM (by simp[Op.unary,e])
 ·simp at c
theorem qD (k:Nat)(x:Operand)(j:Operand->Value)(o:Oper)(p:o.op=.extract x k)(i:DV)(q:XA w O μ h (j x) i)(r:Va)
  (a:S3 k [i]=some r) (l:X3 w O μ h):V0 O w μ h n ((execOp j o).run P w) r:=by
 unfold S3 at a;split at a
 ·rename_i s b;simp only[ZH,and_true]at b;subst b;obtain⟨t,e,m⟩:=q;cases c:s[k]? with
  |none=>simp[c]at a
  |some d=>
  simp only[c,Za]at a;subst a;obtain⟨v,f,g⟩:=m.get k d c;refine X8 l ?_ (XA.K9 g);simp only[execOp,p];exact WM (by simp[Instr.extract,e,f])
 ·simp at a
theorem Eh (t:TypeId)(x:Operand)(j:Operand->Value)(o:Oper)(s:Array TypeId)(u:o.op=.call ⟨.builtin .len,#[x],s⟩)(e:TypeId)(v:s[0]? =some t)(y:P.underlying t=some (.slice e))(m:DV)(l:XA w O μ h (j x) m)(r:Va)
  (i:Oa [m]=some r) (k:X3 w O μ h):V0 O w μ h n ((execOp j o).run P w) r:=by
 have key:∀(p:Option Addr) (c a:Nat),j x=.slice p c a->(execOp j o).run P w=.ok (.value (.int .i64 (Int.ofNat c))) w:=by
  intro p c a d;simp[execOp,u,resolve,invoke,builtin,Builtin.len_,v,d,underlying,y,goInt,Sem.run_bind,Result.andThen,go_sem]
 unfold Oa at i;split at i<;>simp only[reduceCtorEq,Za]at i<;>subst i<;>rename_i f<;>simp only[ZH,and_true]at f<;>subst f
 ·exact X8 k (key _ _ _ l.bP) (XA.int _ _)
 ·obtain⟨b,z,B,a,A,d,_⟩:=l.bQ;exact X8 k (key _ _ _ d) (XA.int _ _)
 ·obtain⟨b,g,q,a,d,_⟩:=l.Rh;exact X8 k (key _ _ _ d) (XA.int _ _)
end
end Go.Ev
namespace Go.Ev
section
variable {P:Program}{O:BS}{w:World}{μ:Nat->Nat}{h:HF}{n:Nat}
theorem XX {a:Type}{b:Bool}{x y:a}(h:(bif b then some x else none)=some y):b=true/\x=y:=by
 cases b<;>simp_all
theorem kE (s:TypeId)(z:Array Field)(f:Nat)(l:Field)(i:TypeInfo)(x:Operand)(u:Operand->Value)(o:Oper)(I:o.op=.fieldAddr s x f)(K:P.underlying s=some (.struct z))(F:z[f]? =some l)
  (G:P.info? l.type=some i) (M:i.size≠0) (y:DV) (B:XA w O μ h (u x) y) (r:Va) (k:Uv l.offset [y]=some r) (A:X3 w O μ h):V0 O w μ h n ((execOp u o).run P w) r:=by
 have key:∀(g q:Nat),u x=.pointer (some ⟨g,q,none⟩)->(execOp u o).run P w=.ok (.value (.pointer (some ⟨g,q+l.offset,none⟩))) w:=by
  intro g q m;simp only[execOp,I];refine WM ?_;simp[Instr.fieldAt,underlying,K,F,m,Instr.sureAddr,fieldPlace,Go.sizeOf,typeInfo,G,M,Sem.run_bind,Result.andThen,go_sem,UN]
 unfold Uv at k;split at k
 ·rename_i Q a;simp only[ZH,and_true]at a;subst a;obtain⟨_,rfl⟩:=XX k;obtain⟨b,N,m,t,H,E,J⟩:=B.fZ;refine X8 A (key _ _ m) (XE.p _ _ (.ref _ _ _ (fun j=>t (l.offset+j)) (fun j d c=> ?_) (fun j d c=> ?_) (fun j d c=> ?_)))
  ·rw[Yk]at c;exact H _ _ c
  ·rw[Yk]at c;have:=E _ _ c;rw[Nat.add_assoc];exact this
  ·rw[Yk]at c;exact J _ _ c
 ·rename_i id XM j q a;simp only[ZH,and_true]at a;subst a;simp only[Za]at k;subst k;obtain⟨b,g,S,m,D,L,v⟩:=B.P0;exact X8 A (key _ _ m) (XE.ptr _ _ _ _ b _ _ D L fun e=>by obtain⟨C,R⟩:=v e;exact⟨C,by omega⟩)
 ·simp at k
theorem ui (t e:TypeId)(i:TypeInfo)(x M:Operand)(z:Operand->Value)(o:Oper)(ho:o.op=.indexAddr t x M)(ht:P.underlying t=some (.slice e))(hi:P.info? e=some i)
  (R Q:DV) (W:XA w O μ h (z x) R) (D:XA w O μ h (z M) Q) (r:Va) (u:VV i.size h [R,Q]=some r) (U:X3 w O μ h):V0 O w μ h n ((execOp z o).run P w) r:=by
 have key:∀(g q l m j:Nat) (k:IntKind),z x=.slice (some ⟨g,q,none⟩) l m->z M=.int k (Int.ofNat j)->j<l->(execOp z o).run P w=.ok (.value (.pointer (some ⟨g,q+j*i.size,none⟩))) w:=by
  intro g q l m j k B I a;simp only[execOp,ho];refine WM ?_;simp[Instr.indexAt,asIntOf,underlying,ht,B,I,Go.sizeOf,typeInfo,hi,Sem.run_bind,Result.andThen,go_sem,UN];intro a0;omega
 unfold VV at u;split at u
 ·rename_i S k j f;simp only[ZH,and_true]at f;obtain⟨rfl,rfl⟩:=f;cases s:S[j]? with
  |none=>simp[s]at u
  |some c=>
  simp only[s]at u;obtain⟨H,rfl⟩:=XX u;obtain⟨b,N,sz,m,sp,B,L,A,hs,G,hl,v,hp⟩:=W.bQ;obtain rfl:sp=none:=L.resolve_left (fun X=>by rw[X]at s;simp at s);have I:j<S.length:=(Zf.1 s).1;have F:i.size=sz:=by rw[<-hs j c s];exact(Zl H).symm
  refine X8 U (key _ _ _ _ _ _ B D.W5 I) (XE.p _ _ (.ref _ _ _ (fun q=>G j q) (fun q d E=>hl j c q d s E) (fun q d E=> ?_) (fun q d E=>hp j c q d s E)));rw[F];exact v j c q d s E
 ·rename_i id XM N l k j f;simp only[ZH,and_true]at f;obtain⟨rfl,rfl⟩:=f;obtain⟨b,g,q,m,B,V,hv,A,K⟩:=W.Rh;simp only[V]at u;obtain⟨a,rfl⟩:=XX u;rw[Zs]at a;obtain⟨y,a⟩:=a;have y:=Zl y;have a:j<l:=by simpa[Nat.blt_eq]using a
  refine Sj U (key _ _ _ _ _ _ B D.W5 a) (XE.ptr _ _ _ _ b _ _ V hv fun e=> ?_);obtain⟨Z,C,T,hC,Y⟩:=K e;rcases Y with⟨J,_⟩|⟨h0,_⟩
  ·refine⟨Z,?_⟩;rw[J,y,ZG];simp
  ·omega
 ·simp at u
theorem W7 {a b:Nat}(h:Nat.ble a b=true):a<=b:=Nat.le_of_ble_eq_true h
theorem Qy {a b:Nat}(h:Nat.blt a b=true):a<b:=by simpa[Nat.blt_eq]using h
theorem uj (t e:TypeId)(m:Nat)(i:TypeInfo)(x C:Operand)(f:Operand->Value)(o:Oper)(M:o.op=.indexAddr t x C)(Q:P.underlying t=some (.array m e))(J:P.info? e=some i)
  (E D:DV) (G:XA w O μ h (f x) E) (s:XA w O μ h (f C) D) (r:Va) (u:Ro m i.size [E,D]=some r) (F:X3 w O μ h):V0 O w μ h n ((execOp f o).run P w) r:=by
 have key:∀(g q j:Nat) (k:IntKind),f x=.pointer (some ⟨g,q,none⟩)->f C=.int k (Int.ofNat j)->j<m->(execOp f o).run P w=.ok (.value (.pointer (some ⟨g,q+j*i.size,none⟩))) w:=by
  intro g q j k l K A;simp only[execOp,M];refine WM ?_;simp[Instr.indexAt,asIntOf,underlying,Q,l,K,Go.sizeOf,typeInfo,J,Instr.sureAddr,Sem.run_bind,Result.andThen,go_sem,UN,A]
 unfold Ro at u;split at u
 ·rename_i T k j a;simp only[ZH,and_true]at a;obtain⟨rfl,rfl⟩:=a;obtain⟨y,rfl⟩:=XX u;rw[Zs]at y;obtain⟨b,S,l,v,L,I,N⟩:=G.fZ;refine X8 F (key _ _ _ _ l s.W5 (Qy y.1)) (XE.p _ _ (.ref _ _ _ (fun q=>v (j*i.size+q)) (fun q d c=> ?_) (fun q d c=> ?_) (fun q d c=> ?_)))
  ·rw[Yk]at c;exact L _ _ c
  ·rw[Yk]at c;have:=I _ _ c;rw[Nat.add_assoc];exact this
  ·rw[Yk]at c;exact N _ _ c
 ·rename_i id XM V q k j a;simp only[ZH,and_true]at a;obtain⟨rfl,rfl⟩:=a;obtain⟨y,rfl⟩:=XX u;obtain⟨b,g,W,l,z,R,B⟩:=G.P0;exact X8 F (key _ _ _ _ l s.W5 (Qy y)) (XE.ptr _ _ _ _ b _ _ z R fun e=>by obtain⟨H,U⟩:=B e;exact⟨H,by omega⟩)
 ·simp at u
theorem l9 (t:TypeId)(i:TypeInfo)(b:Bool)(m:ej P t=some b)(r:P.info? t=some i)(xs:List Value)(g:Y')(l:XB (XE w O μ h) xs g)(a:Nat)(v:DV)(f:Sa b i.size (g.drop a)=some v):
  ∃u,(part t xs.toArray a).run P w=.ok u w/\XA w O μ h u v:=by
 have e:(isAgg t).run P w=.ok b w:=by
  unfold ej at m;unfold isAgg;split at m<;>simp only[Za,reduceCtorEq]at m<;>subst m<;>rename_i n
  ·simp[underlying,n]
  ·simp[underlying,n]
  ·rename_i s x;rename_i d;cases d<;>simp_all [underlying]
 unfold Sa at f;cases b with
 |true=>
  simp only[cond_true]at f;obtain⟨k,rfl⟩:=XX f;have k:=W7 k;refine⟨.agg ((xs.drop a).take i.size).toArray,?_,⟨_,rfl,(l.drop a).take i.size⟩⟩;have p:(Go.sizeOf t).run P w=.ok i.size w:=by simp[Go.sizeOf,typeInfo,r]
  simp[part,Sem.run_bind,e,Result.andThen,p]
 |false=>
  simp only[cond_false]at f;cases o:g.drop a with
  |nil=>simp[o]at f
  |cons c rest=>
  simp only[o,Za]at f;subst f;have h0:g[a]? =some c:=by
   have:=Yk (xs:=g) (i:=a) (j:=0);rw[o]at this;simpa using this.symm
  obtain⟨u,n,q⟩:=l.get a c h0;refine⟨u,?_,q⟩;simp[part,Sem.run_bind,e,Result.andThen,n]
end
end Go.Ev
namespace Go.Ev
section
variable {P:Program}{O:BS}{w:World}{μ:Nat->Nat}{h:HF}{n:Nat}
theorem yx (t e:TypeId)(i:TypeInfo)(p:Option Addr)(d a:Nat)(q:P.underlying t=some (.slice e))(o:P.info? e=some i)(j b:Option Value)(l u:Nat)
  (g:(j=none/\l=0)\/∃k,j=some (.int k (Int.ofNat l))) (f:(b=none/\u=d)\/∃k,b=some (.int k (Int.ofNat u))) (m:l<=u) (n:u<=a):
  (Instr.sliceAt t (.slice p d a) j b none).run P w=.ok (.slice (if a=l then p else p.map (·.add (l*i.size))) (u-l) (a-l)) w:=by
 have r:∀c,(Instr.sliceBound (.int .i64 (Int.ofNat l)) u c).run P w=.ok l w:=by intro c;simp[Instr.sliceBound,asIntOf];intro;omega
 have h:(Go.sizeOf e).run P w=.ok i.size w:=by simp[Go.sizeOf,typeInfo,o]
 rcases g with⟨rfl,rfl⟩|⟨k,rfl⟩<;>rcases f with⟨rfl,rfl⟩|⟨s,rfl⟩<;>
  simp[Instr.sliceAt,Instr.slice,underlying,q,Instr.sliceBounds,Instr.sliceBound,asIntOf,h,Sem.run_bind,Result.andThen,m,n]
theorem XE.zc {id XM c s l u:Nat}{v:Value}(i:TypeInfo)(b:Xx)(t:h id=some b)(p:b.sz=i.size)(g q a:Nat)(z:XM<=b.XM)(D:l<=u)(E:u<=a)
  (y:XM=b.XM->g=μ id/\∃(C:Array Value) (T:TypeId),w.heap[μ id]? =some (.cells C T (0,0))/\((q=c*b.sz/\(c+a)*b.sz=C.size/\a<=maxLen)\/(s=0/\a=0/\0<c)))
  (A:v=.slice (if a=l then some ⟨g,q,none⟩else some ⟨g,q+l*i.size,none⟩) (u-l) (a-l)):XE w O μ h v (.own id XM (c+l) (u-l)):=by
 subst A;by_cases x:a=l
 ·rw[if_pos x];refine .own id XM (c+l) (u-l) b g q (a-l) t z (by omega) fun e=> ?_
  obtain⟨k,C,T,f,j⟩:=y e;refine⟨k,C,T,f,?_⟩;rcases j with⟨n,r,B⟩|⟨h0,d,o⟩
  ·by_cases m:l=0
   ·subst m;left;exact⟨by simpa using n,by simpa using r,by omega⟩
   ·right;exact⟨by omega,by omega,by omega⟩
  ·right;exact⟨by omega,by omega,by omega⟩
 ·rw[if_neg x];refine .own id XM (c+l) (u-l) b g _ (a-l) t z (by omega) fun e=> ?_
  obtain⟨k,C,T,f,j⟩:=y e;refine⟨k,C,T,f,?_⟩;rcases j with⟨n,r,B⟩|⟨h0,d,o⟩
  ·left;refine⟨by rw[n,p,ZG],?_,by omega⟩;rw[<-r];congr 1;omega
  ·omega
theorem Ws.KV {L:BS}(a:Addr)(e:Nat):Ws w L (.slice (some a) 0 e) (.Xn []):=
 .Xn a.block a.off 0 e [] (fun _ _=>.bool true) (fun i c j d b=>by simp at b) (by simp) (fun i c b=>by simp at b) (fun i c j d b=>by simp at b) (fun i c j d b=>by simp at b) (.inl rfl)
theorem Ws.zx {L:BS}{f:I'}{v:Value}(i:TypeInfo){b n y a l u:Nat}(C:f.length<=a)(H:∀(i:Nat) (c:N'),f[i]? =some c->c.length=y)(o:Nat->Nat->Value)
  (F:∀(i:Nat) (c:N') (j:Nat) (d:PL),f[i]? =some c->c[j]? =some d->¬L b)
  (D:∀(i:Nat) (c:N') (j:Nat) (d:PL),f[i]? =some c->c[j]? =some d->w.cell? ⟨b,n+i*y+j,none⟩=some (o i j))
  (G:∀(i:Nat) (c:N') (j:Nat) (d:PL),f[i]? =some c->c[j]? =some d->Ws w L (o i j) d) (I:l<=u) (J:u<=f.length) (B:(∃c,f[l]? =some c)->l≠a->y=i.size)
  (E:v=.slice (if a=l then some ⟨b,n,none⟩else some ⟨b,n+l*i.size,none⟩) (u-l) (a-l)):Ws w L v (.Xn ((f.take u).drop l)):=by
 have m:((f.take u).drop l).length=u-l:=by simp;omega
 have g:∀(k:Nat) (c:N'),((f.take u).drop l)[k]? =some c->f[l+k]? =some c/\l+k<u:=by
  intro k c h;rw[Yk,Z8]at h;split at h
  ·exact⟨h,by assumption⟩
  ·simp at h
 subst E;by_cases p:a=l
 ·rw[if_pos p];have x:u-l=0:=by omega
  have t:(f.take u).drop l=[]:=Ye (by rw[m,x]);rw[t,x];exact .Xn b n y (a-l) [] (fun _ _=>.bool true) (fun i c j d q=>by simp at q) (by simp) (fun i c q=>by simp at q) (fun i c j d q=>by simp at q) (fun i c j d q=>by simp at q) (.inr rfl)
 ·rw[if_neg p,<-m];refine .Xn b (n+l*i.size) y (a-l) _ (fun k j=>o (l+k) j) (fun k c j d h r=>F _ _ _ _ (g k c h).1 r) (by rw[m];omega) (fun k c h=>H _ _ (g k c h).1) (fun k c j d h r=> ?_) (fun k c j d h r=>G _ _ _ _ (g k c h).1 r) (.inr rfl);have s:=(g k c h).1;have z:l<f.length:=by have:=(Zf.1 s).1;omega
  have A:=B ⟨f[l],by simp[z]⟩ (fun e=>p e.symm);have:=D _ _ _ _ s r;rw[<-A];rw[ZG,<-Nat.add_assoc]at this;exact this
theorem ym (t e:TypeId)(i:TypeInfo)(x:Operand)(L B:Option Operand)(I:Operand->Value)(o:Oper)(ho:o.op=.slice t x L B none)(ht:P.underlying t=some (.slice e))(hi:P.info? e=some i)
  (Z:DV) (ds:X') (hx:XA w O μ h (I x) Z) (E:XB (fun y d=>XA w O μ h (I y) d) (L.toList++B.toList) ds) (r:Va) (K:QD i.size L.isSome B.isSome h (Z::ds)=some r) (N:X3 w O μ h):
  V0 O w μ h n ((execOp I o).run P w) r:=by
 unfold QD at K;cases f:V7 L.isSome B.isSome (Z::ds)with
 |none=>simp[f]at K
 |some q=>
 obtain⟨y,l,u⟩:=q;simp only[f]at K;have args:Z=.one y/\(∃W:Option Value,L.map I=W/\((W=none/\l=0)\/∃k,W=some (.int k (Int.ofNat l))))/\
   (∃V:Option Value,B.map I=V/\((V=none/\u=none)\/∃k u',V=some (.int k (Int.ofNat u'))/\u=some u')):=by
  cases L with
  |none=>
   cases B with
   |none=>
    cases E;simp only[V7,Option.isSome_none]at f;split at f<;>simp_all
   |some hh=>
    cases E with
    |cons z X=>
     cases X;unfold V7 at f;split at f<;>simp_all;obtain⟨rfl,rfl,rfl⟩:=f;exact⟨_,_,z.W5,rfl⟩
  |some ll=>
   cases B with
   |none=>
    cases E with
    |cons z X=>
     cases X;unfold V7 at f;split at f<;>simp_all;obtain⟨rfl,rfl,rfl⟩:=f;exact⟨_,z.W5⟩
   |some hh=>
    cases E with
    |cons z X=>cases X with
     |cons A t2=>
      cases t2;unfold V7 at f;split at f<;>simp_all;obtain⟨rfl,rfl,rfl⟩:=f;exact⟨⟨_,z.W5⟩,_,_,A.W5,rfl⟩
 obtain⟨rfl,⟨W,a3,a2⟩,a5,a1,a0⟩:=args;have key:∀(p:Option Addr) (s j:Nat),I x=.slice p s j->l<=u.getD s->u.getD s<=j->
   (execOp I o).run P w=.ok (.value (.slice (if j=l then p else p.map (·.add (l*i.size))) (u.getD s-l) (j-l))) w:=by
  intro p s j J z A;simp only[execOp,ho];refine WM ?_;rw[J,a3,a1];refine yx t e i p s j ht hi W a5 l (u.getD s) a2 ?_ z A;rcases a0 with⟨a,b⟩|⟨k,u',a,b⟩
  ·exact .inl ⟨a,by rw[b];rfl⟩
  ·exact .inr ⟨k,by rw[a,b];rfl⟩
 cases m:WA i.size h y l u with
 |none=>simp[m]at K
 |some q=>
 obtain⟨d,rd⟩:=q;simp only[m,Za]at K;subst K;unfold WA at m;split at m
 ·
  rename_i es;obtain⟨D,v⟩:=XX m;simp only[Zp]at v;obtain⟨rfl,rfl⟩:=v;simp only[Zs]at D;obtain⟨b,a6,sz,j,sp,J,a4,F,hs,Y,hl,H,hp⟩:=hx.bQ;have z:=W7 D.1.1;have A:=W7 D.1.2;rcases a4 with rfl|rfl
  ·refine Sj N (key _ _ _ J z (by omega)) (XE.p _ _ ?_);have e1:u.getD 0-l=0:=by simp only[Zr]at A;omega
   have e2:(([]:I').take (u.getD 0)).drop l=[]:=by simp
   simp only[Zr]at e1⊢;rw[e1,e2];split
   ·exact Ws.KV _ _
   ·exact Ws.KV _ _
  refine Sj N (key _ _ _ J z (by omega)) (XE.p _ _ (Ws.zx i F hs Y hl H hp z A (fun⟨c,R⟩ _=> ?_) ?_))
  ·have:=D.2;rw[R]at this;rw[<-hs l c R];exact Zl this
  ·split<;>simp[UN]
 ·
  obtain⟨D,v⟩:=XX m;simp only[Zp]at v;obtain⟨rfl,rfl⟩:=v;simp only[Zs]at D;have z:=Zl D.1;have A:=Zl D.2;subst z;refine Sj N ((key _ _ _ hx.bP (by omega) (by omega)).trans ?_) (XE.p _ _ .Xq);simp[A]
 ·
  rename_i id XM a6 s;obtain⟨b,g,q,j,J,G,V,F,U⟩:=hx.Rh;simp only[G]at m;obtain⟨D,v⟩:=XX m;simp only[Zp]at v;obtain⟨rfl,rfl⟩:=v;simp only[Zs]at D;have z:=W7 D.1.1;have h3:=Zl D.2;have A:u.getD s<=j:=by
   rcases Bool.or_eq_true_iff.1 D.1.2 with A|A
   ·have:=W7 A;omega
   ·simp only[Zs,YB]at A;obtain⟨⟨⟨⟨e1,e2⟩,e3⟩,e4⟩,e5⟩:=A;have e1:=Zl e1;have e3:=Zl e3;have e4:=Qy e4;have e5:=W7 e5;obtain⟨_,C,T,hC,hd⟩:=U e1.symm;have Q:=N.RH id b G;simp only[Wr,e2,Zy,if_false]at Q;obtain⟨C',M,S,_⟩:=Q;rw[hC]at M;cases M;rcases hd with⟨_,hz,_⟩|⟨_,_,a7⟩
    ·rw[e3,Yg]at hz;rw[<-hz]at S;have:=Nat.le_of_mul_le_mul_right S (by omega:0<b.sz);omega
    ·omega
  refine Sj N (key _ _ _ J z A) (XE.zc i b G h3 g q j V z A U ?_);split<;>simp[UN]
 ·simp at m
theorem ue (t e:TypeId)(i:TypeInfo)(x C f D:Operand)(j:Operand->Value)(o:Oper)(L:o.op=.slice t x (some C) (some f) (some D))(M:P.underlying t=some (.slice e))(K:P.info? e=some i)
  (A u y z:DV) (N:XA w O μ h (j x) A) (F:XA w O μ h (j C) u) (G:XA w O μ h (j f) y) (H:XA w O μ h (j D) z) (r:Va) (l:Pg [A,u,y,z]=some r) (I:X3 w O μ h):
  V0 O w μ h n ((execOp j o).run P w) r:=by
 unfold Pg at l;split at l
 ·rename_i id XM R Q U a V b W c d;simp only[ZH,and_true]at d;obtain⟨rfl,rfl,rfl,rfl⟩:=d
  ·obtain⟨k,rfl⟩:=XX l;simp only[Zs]at k;have e1:=W7 k.1.1;have e2:=W7 k.1.2;have T:=W7 k.2;obtain⟨S,g,q,m,J,_,_,B,_⟩:=N.Rh;have s:(Go.sizeOf e).run P w=.ok i.size w:=by simp[Go.sizeOf,typeInfo,K]
   have E:c<=m:=by omega
   refine X8 (v:=.slice (if c=a then some ⟨g,q,none⟩else(some (⟨g,q,none⟩:Addr)).map (·.add (a*i.size))) (b-a) (c-a)) I ?_ (XE.p _ _ (.Qo _ rfl));simp only[execOp,L];refine WM ?_;rw[J];simp[F.W5,G.W5,H.W5,Instr.sliceAt,Instr.slice,underlying,M,Instr.sliceBounds,Instr.sliceBound,asIntOf,s,Sem.run_bind,Result.andThen,e1,e2,E]
 ·simp at l
theorem A8 (t:TypeId)(m:Nat)(e:TypeId)(x:Operand)(j:Operand->Value)(o:Oper)(b:Array TypeId)(f:o.op=.call ⟨.builtin .len,#[x],b⟩)(g:b[0]? =some t)(i:P.underlying t=some (.array m e))(c:DV)(r:Va)
  (a:aq m [c]=some r) (d:X3 w O μ h):V0 O w μ h n ((execOp j o).run P w) r:=by
 simp only[aq,Za]at a;subst a;refine X8 (v:=.int .i64 (Int.ofNat m)) d ?_ (XA.int _ _);simp[execOp,f,resolve,invoke,builtin,Builtin.len_,g,underlying,i,goInt,Sem.run_bind,Result.andThen,go_sem]
theorem Wg {a:Type}{b:Bool}{x:Option a}{y:a}(h:(bif b then x else none)=some y):b=true/\x=some y:=by
 cases b<;>simp_all
theorem yn (s:TypeId)(m:Array Field)(f:Nat)(c:Field)(i:TypeInfo)(b:Bool)(x:Operand)(p:Operand->Value)(o:Oper)(A:o.op=.field s x f)(B:P.underlying s=some (.struct m))(y:m[f]? =some c)
  (t:ej P c.type=some b) (z:P.info? c.type=some i) (l:DV) (D:XA w O μ h (p x) l) (r:Va) (a:PS b i.size c.offset [l]=some r) (q:X3 w O μ h):V0 O w μ h n ((execOp p o).run P w) r:=by
 unfold PS at a;split at a
 ·rename_i k d;simp only[ZH,and_true]at d;subst d;obtain⟨_,a⟩:=Wg a;cases g:Sa b i.size (k.drop c.offset)with
  |none=>simp[g]at a
  |some v=>
  simp only[g,Za]at a;subst a;obtain⟨E,e,j⟩:=D;obtain⟨u,C,a⟩:=l9 (P:=P) c.type i b t z E k j c.offset v g;refine X8 q ?_ a;simp only[execOp,A];exact WM (by simp[Instr.field,underlying,B,y,e,asAgg,Sem.run_bind,Result.andThen,C])
 ·simp at a
theorem uh (t e:TypeId)(m:Nat)(i:TypeInfo)(b:Bool)(x C:Operand)(q:Operand->Value)(o:Oper)(G:o.op=.index t x C)(H:P.underlying t=some (.array m e))(F:ej P e=some b)(B:P.info? e=some i)
  (z y:DV) (J:XA w O μ h (q x) z) (d:XA w O μ h (q C) y) (r:Va) (a:Sr m b i.size [z,y]=some r) (E:X3 w O μ h):V0 O w μ h n ((execOp q o).run P w) r:=by
 unfold Sr at a;split at a
 ·rename_i s k j c;simp only[ZH,and_true]at c;obtain⟨rfl,rfl⟩:=c;obtain⟨A,a⟩:=Wg a;rw[Zs]at A;have f:=Qy A.1;cases l:Sa b i.size (s.drop (j*i.size))with
  |none=>simp[l]at a
  |some v=>
  simp only[l,Za]at a;subst a;obtain⟨K,D,p⟩:=J;obtain⟨u,I,a⟩:=l9 (P:=P) e i b F B K s p (j*i.size) v l;have g:(Go.sizeOf e).run P w=.ok i.size w:=by simp[Go.sizeOf,typeInfo,B]
  refine X8 E ?_ a;simp only[execOp,G];exact WM (by simp[Instr.index,underlying,H,D,d.W5,asIntOf,Sem.run_bind,Result.andThen,f,g,I])
 ·simp at a
theorem nR (t:TypeId)(x p:Operand)(i:Operand->Value)(o:Oper)(z:o.op=.index t x p)(B:P.underlying t=some .string)
  (m l:DV) (C:XA w O μ h (i x) m) (g:XA w O μ h (i p) l) (r:Va) (a:Ui [m,l]=some r) (y:X3 w O μ h):V0 O w μ h n ((execOp i o).run P w) r:=by
 unfold Ui at a;split at a
 ·rename_i q k j e;simp only[ZH,and_true]at e;obtain⟨rfl,rfl⟩:=e;cases d:q[j]? with
  |none=>simp[d]at a
  |some b=>
  simp only[d,Za]at a;subst a;obtain⟨s,u,rfl⟩:=C.Ff;rw[ZD]at d;cases f:s.data.toList[j]? with
  |none=>simp[f]at d
  |some c=>
  simp only[f,Z6,Za]at d;subst d;refine X8 (v:=.int .u8 c.toNat) y ?_ (XA.int _ _);simp only[execOp,z];have A:s[j]? =some c:=by
   rw[Array.getElem?_toList]at f;exact f
  exact WM (by simp[Instr.index,underlying,B,u,g.W5,asIntOf,Sem.run_bind,Result.andThen,A])
 ·simp at a
end
end Go.Ev
namespace Go.Ev
section
variable {P:Program}{O:BS}{w:World}{μ:Nat->Nat}{h:HF}{n:Nat}
theorem mD {v:Value}{l:DL}{b:Bool}(d:XA w O μ h v (.one l))(a:l.isNil=some b):∃p f c,v=.slice p f c/\p.isNone=b:=by
 unfold DL.isNil at a;split at a<;>simp only[Za,reduceCtorEq]at a<;>subst a
 ·exact⟨_,_,_,d.bP,rfl⟩
 ·obtain⟨g,q,_,_,_,e,_⟩:=d.bQ;exact⟨_,_,_,e,rfl⟩
 ·obtain⟨_,g,q,_,e,_⟩:=d.Rh;exact⟨_,_,_,e,rfl⟩
theorem fC (j:Nat)(t e:TypeId)(p q:Option Addr)(a b c d:Nat)(x y:Bool)(i:P.underlying t=some (.slice e))(f:p.isNone=x)(h:q.isNone=y)(g:x=true\/y=true):
  (Op.equalIn (j+1) t (.slice p a b) (.slice q c d)).run P w=.ok (x&&y) w:=by
 cases p with
 |none=>
  simp at f;subst f;simp[Op.equalIn,underlying,i,h]
 |some p=>
  simp at f;subst f;have k:y=true:=by simpa using g
  subst k;cases q with
  |some q=>simp at h
  |none=>simp[Op.equalIn,underlying,i]
theorem kG (t e:TypeId)(p q:Option Addr)(a b c d:Nat)(x y:Bool)(i:P.underlying t=some (.slice e))(g:p.isNone=x)(h:q.isNone=y)(f:x=true\/y=true):
  (Op.equal t (.slice p a b) (.slice q c d)).run P w=.ok (x&&y) w:=fC 9999 t e p q a b c d x y i g h f
theorem gS (c:Bool)(t u e:TypeId)(x y:Operand)(j:Operand->Value)(o:Oper)(C:o.op=.binOp (if c then .neq else .eql) t x y u)(F:P.underlying t=some (.slice e))
  (k l:DV) (G:XA w O μ h (j x) k) (H:XA w O μ h (j y) l) (r:Va) (f:Uo c [k,l]=some r) (s:X3 w O μ h):
  V0 O w μ h n ((execOp j o).run P w) r:=by
 cases k with
 |agg _=>simp[Uo]at f
 |X9 _=>simp[Uo]at f
 |one v=>
 cases l with
 |agg _=>simp[Uo]at f
 |X9 _=>simp[Uo]at f
 |one z=>
 simp only[Uo]at f;cases d:uS c v z with
 |none=>simp[d]at f
 |some K=>
 simp only[d,Za]at f;subst f;have key:∀(a b:Bool),v.isNil=some a->z.isNil=some b->(a=true\/b=true)->(execOp j o).run P w=.ok (.value (.bool ((a&&b)!=c))) w:=by
  intro a b g i m;obtain⟨p,I,A,e1,D⟩:=mD G g;obtain⟨q,J,B,e2,E⟩:=mD H i;simp only[execOp,C];refine WM ?_;rw[Sem.run_bind,e1,e2,bg];have hE:=kG (w:=w) t e p q I A J B a b F D E m;cases c
  ·simp only[Result.andThen,binOp,Sem.run_bind,hE,if_false,Zy];simp[pure]
  ·simp only[Result.andThen,binOp,Sem.run_bind,hE,if_true];simp[pure]
 unfold uS at d;split at d
 ·rename_i b g i;simp only[Za]at d;subst d;refine X8 s (key _ _ g i (.inl rfl)) ?_;simpa using XA.bool _
 ·rename_i g i;simp only[Za]at d;subst d;refine X8 s (key _ _ g i (.inr rfl)) ?_;have :((false&&true)!=c)=c:=by cases c<;>rfl
  rw[this];exact XA.bool _
 ·simp at d
theorem OY {k:IntKind}:∀{g e:Y'} {b:Bool},Wk k g e=some b->∀{m j:List Value},XB (XE w O μ h) m g->XB (XE w O μ h) j e->
  ∃as i:U',m=as.map (Value.int k)/\j=i.map (Value.int k)/\as.length=i.length/\b=(as==i):=by
 intro g;induction g with
 |nil=>
  intro e b d m j t o;cases e with
  |nil=>simp[Wk]at d;subst d;cases t;cases o;exact⟨[],[],rfl,rfl,rfl,rfl⟩
  |cons y e=>simp[Wk]at d
 |cons x g D=>
  intro e b d m j t o;cases x with
  |own _ _ _ _=>simp[Wk]at d
  |ptr _ _ _ _=>simp[Wk]at d
  |fn _ _=>simp[Wk]at d
  |mp _=>simp[Wk]at d
  |p l=>
  cases l with
  |bool _=>simp[Wk]at d
  |Xq=>simp[Wk]at d
  |Xn _=>simp[Wk]at d
  |ref _=>simp[Wk]at d
  |fn _ _=>simp[Wk]at d
  |str _=>simp[Wk]at d
  |Qo=>simp[Wk]at d
  |int E a=>
  cases e with
  |nil=>simp[Wk]at d
  |cons y e=>
  cases y with
  |own _ _ _ _=>simp[Wk]at d
  |ptr _ _ _ _=>simp[Wk]at d
  |fn _ _=>simp[Wk]at d
  |mp _=>simp[Wk]at d
  |p l=>
  cases l with
  |bool _=>simp[Wk]at d
  |Xq=>simp[Wk]at d
  |Xn _=>simp[Wk]at d
  |ref _=>simp[Wk]at d
  |fn _ _=>simp[Wk]at d
  |str _=>simp[Wk]at d
  |Qo=>simp[Wk]at d
  |int F c=>
  simp only[Wk]at d;obtain⟨B,f⟩:=Wg d;clear d;rw[Zs,VY,VY]at B;obtain⟨z,A⟩:=B;have z:=z.symm;subst z;have A:=A.symm;subst A;cases n:Wk k g e with
  |none=>simp[n]at f
  |some r=>
  simp only[n,Za]at f;cases t with
  |cons u v=>cases o with
   |cons q s=>
    obtain⟨as,i,rfl,rfl,C,rfl⟩:=D n v s;have e1:=XA.W5 (u:XA w O μ h _ (.one _));have e2:=XA.W5 (q:XA w O μ h _ (.one _));refine⟨a::as,c::i,by rw[e1];rfl,by rw[e2];rfl,by simp[C],?_⟩;rw[<-f,dX];rfl
theorem wk (c:Bool)(D:Array Operand)(B:Operand->Value)(o:Oper)(Q:Array TypeId)(M:o.op=.call ⟨.builtin (if c then .min else .max),D,Q⟩)
  (s:X') (x:XB (fun y d=>XA w O μ h (B y) d) D.toList s) (r:Va) (t:Qg (if c then(fun a b=>SR b a)else SR) s=some r) (N:X3 w O μ h):V0 O w μ h n ((execOp B o).run P w) r:=by
 have u:∀(m:List Value) (s:X') (k:IntKind) (a:Int) (d:DV),XB (XA w O μ h) m s->maxD (if c then(fun a b=>SR b a)else SR) k a s=some d->
   ∃v,(List.foldlM (if c then Builtin.min2 else Builtin.max2) (Value.int k a) m).run P w=.ok v w/\XA w O μ h v d:=by
  intro m s;induction s generalizing m with
  |nil=>
   intro k a d J g;cases J;simp only[maxD,Za]at g;subst g;exact⟨.int k a,by simp,XA.int _ _⟩
  |cons y T L=>
   intro k a d J g;cases y with
   |agg _=>simp[maxD]at g
   |X9 _=>simp[maxD]at g
   |one l=>
   cases l with
   |own _ _ _ _=>simp[maxD]at g
   |ptr _ _ _ _=>simp[maxD]at g
   |fn _ _=>simp[maxD]at g
   |mp _=>simp[maxD]at g
   |p l=>
   cases l with
   |bool _=>simp[maxD]at g
   |Xq=>simp[maxD]at g
   |Xn _=>simp[maxD]at g
   |ref _=>simp[maxD]at g
   |fn _ _=>simp[maxD]at g
   |str _=>simp[maxD]at g
   |Qo=>simp[maxD]at g
   |int R b=>
   simp only[maxD]at g;obtain⟨I,H⟩:=Wg g;clear g;have I:=(VY _ _).1 I;subst I;cases J with
   |cons E F=>
    obtain⟨v,f,j⟩:=L _ k _ d F H;refine⟨v,?_,j⟩;have e:=E.W5;rw[List.foldlM_cons,Sem.run_bind,e];have step:((if c then Builtin.min2 else Builtin.max2) (Value.int k a) (Value.int k b)).run P w=.ok (.int k (bif(if c then(fun a b=>SR b a)else SR) a b then b else a)) w:=by
     cases c<;>simp[Builtin.min2,Builtin.max2,ov,Bool.cond_decide]
    rw[step];exact f
 unfold Qg at t;split at t
 ·rename_i k a m;generalize z:D.toList=xl at x;cases x with
  |cons E F=>
   rename_i S A;cases C:maxD (if c then(fun a b=>SR b a)else SR) k a m with
   |none=>simp[C]at t
   |some d=>
   simp only[C,Za]at t;subst t;have G:XB (XA w O μ h) (A.map B) m:=by
    clear C z;induction F with
    |nil=>exact .nil
    |cons q _ L=>exact .cons q L
   obtain⟨v,f,j⟩:=u _ m k a d G C;refine X8 N ?_ j;have K:=E.W5;have i:(D.map B).toList=Value.int k a::A.map B:=by rw[Array.toList_map,z];simp[K]
   cases c
   ·simp only[execOp,M,resolve,Zy,if_false];simp only[Sem.run_bind,pure,Sem.run,Result.andThen,invoke,builtin,Builtin.max_,i];simp only[Zy,if_false]at f;rw[f]
   ·simp only[execOp,M,resolve,if_true];simp only[Sem.run_bind,pure,Sem.run,Result.andThen,invoke,builtin,Builtin.min_,i];simp only[if_true]at f;rw[f]
 ·simp at t
theorem aZ (f:Nat)(a:Array Operand)(e:Operand->Value)(o:Oper)(k:(Nat.blt f aM=true/\o.op=.makeFunc (.func f) #[] a)\/(Nat.blt f aM=false/\o.op=.makeFunc (.func (f-aM)) a #[]))
  (c:X') (q:XB (fun y d=>XA w O μ h (e y) d) a.toList c) (r:Va) (g:U8 f c=some r) (B:X3 w O μ h):V0 O w μ h n ((execOp e o).run P w) r:=by
 unfold U8 at g;cases t:Xv uO c with
 |none=>simp[t]at g
 |some j=>
 simp only[t,Za]at g;subst g;have key:∀(p:List Operand) (c:X') (j:Y'),XB (fun y d=>XA w O μ h (e y) d) p c->Xv uO c=some j->XB (XE w O μ h) (p.map e) j:=by
  intro p c j D;induction D generalizing j with
  |nil=>intro b;simp[Xv]at b;subst b;exact .nil
  |@cons y d p c A _ F=>
   intro b;simp only[Xv]at b;cases d with
   |agg _=>simp[uO]at b
   |X9 _=>simp[uO]at b
   |one l=>
    simp only[uO]at b;cases u:Xv uO c with
    |none=>simp[u]at b
    |some H=>
     simp only[u,Za]at b;subst b;exact .cons A (F _ u)
 have x:=key _ _ _ q t;have z:(a.map e)=(a.toList.map e).toArray:=by apply Array.ext';simp
 refine X8 (v:=zX f (a.toList.map e)) B ?_ ?_
 ·rcases k with⟨s,k⟩|⟨s,k⟩
  ·simp only[execOp,k,zX,s,cond_true,<-z];exact WM (by simp[Instr.makeFunc])
  ·simp only[execOp,k,zX,s,cond_false,<-z];exact WM (by simp[Instr.makeFunc])
 ·exact XE.fn f j _ x.length fun i d v C E=>by
   obtain⟨G,m,g⟩:=x.get i d C;rw[E]at m;cases m;exact g
end
end Go.Ev
namespace Go.Ev
section
variable {P:Program}{O:BS}{w:World}{μ:Nat->Nat}{h:HF}{n:Nat}
theorem PK (e:TypeId)(k:IntKind)(d:P.underlying e=some (.int k))(as:U')(j:Nat)(a:Int)(c:as[j]? =some a):
  (part e (as.map (Value.int k)).toArray j).run P w=.ok (.int k a) w:=by
 have b:(isAgg e).run P w=.ok false w:=by simp[isAgg,underlying,d]
 simp[part,Sem.run_bind,b,Result.andThen,c]
theorem Q9 (d:Nat)(e:TypeId)(k:IntKind)(b:P.underlying e=some (.int k))(as a:U')(j:as.length=a.length):∀(m s:Nat),s+m=as.length->
  (Op.eqItems (d+1) e 1 (as.map (Value.int k)).toArray (a.map (Value.int k)).toArray (List.range' s m)).run P w=.ok (as.drop s==a.drop s) w:=by
 intro m;induction m with
 |zero=>
  intro s h;rw[Zo (by omega),Zo (by omega)];simp[Op.eqItems]
 |succ m i=>
  intro s h;have c:s<as.length:=by omega
  have f:s<a.length:=by omega
  rw[List.range'_succ];simp only[Op.eqItems,Yr,Sem.run_bind,PK e k b as s _ (Zg c),PK e k b a s _ (Zg f),Result.andThen_ok];have g:(Op.equalIn (d+1) e (.int k as[s]) (.int k a[s])).run P w=.ok (as[s]==a[s]) w:=by
   simp[Op.equalIn,underlying,b]
  rw[g];simp only[Result.andThen_ok];rw[Z5 c,Z5 f];rw[show((as[s]::as.drop (s+1))==(a[s]::a.drop (s+1)))=((as[s]==a[s])&&(as.drop (s+1)==a.drop (s+1)))from rfl];cases(as[s]==a[s])
  ·simp only[Bool.not_false,if_true,Bool.false_and,Sem.run_pure]
  ·simp only[Bool.not_true,Zy,if_false,Bool.true_and];exact i (s+1) (by omega)
theorem run_eqGuard_agg (a:BinOp)(t:TypeId)(x y:Operand)(c d:Array Value)(b:P.eqGuardType P.depth t=false):(eqGuard a t x y (.agg c) (.agg d)).run P w=.ok () w:=by
 cases a<;>simp[eqGuard,go_sem,b]
theorem gT (a:Bool)(t u e:TypeId)(k:IntKind)(m:Nat)(i:TypeInfo)(x y:Operand)(q:Operand->Value)(o:Oper)(J:o.op=.binOp (if a then .neq else .eql) t x y u)(L:P.underlying t=some (.array m e))
  (G:P.underlying e=some (.int k)) (A:P.info? e=some i) (K:i.size=1) (H:P.eqGuardType P.depth t=false)
  (s z:DV) (M:XA w O μ h (q x) s) (N:XA w O μ h (q y) z) (r:Va) (d:UJ a k m [s,z]=some r) (D:X3 w O μ h):
  V0 O w μ h n ((execOp q o).run P w) r:=by
 unfold UJ at d;split at d
 ·rename_i Q R f;simp only[ZH,and_true]at f;obtain⟨rfl,rfl⟩:=f;obtain⟨c,d⟩:=Wg d;have c:=Zl c;cases l:Wk k Q R with
  |none=>simp[l]at d
  |some b=>
  simp only[l,Za]at d;subst d;obtain⟨T,B,g⟩:=M;obtain⟨S,C,p⟩:=N;obtain⟨as,j,rfl,rfl,I,rfl⟩:=OY l g p;have E:as.length=m:=by have:=g.length;simp at this;omega
  have F:P.cellsOf e=1:=by simp[Program.cellsOf,A,K]
  have hE:(Op.equal t (.agg (as.map (Value.int k)).toArray) (.agg (j.map (Value.int k)).toArray)).run P w=.ok (as==j) w:=by
   show(Op.equalIn (9999+1) t _ _).run P w=_;rw[run_equalIn_array w 9999 _ _ L A,F,List.range_eq_range'];have:=Q9 (P:=P) (w:=w) 9998 e k G as j I m 0 (by omega);simpa using this
  refine X8 (v:=.bool ((as==j)!=a)) D ?_ (XA.bool _);simp only[execOp,J];refine WM ?_;rw[Sem.run_bind,B,C,run_eqGuard_agg _ _ _ _ _ _ H];cases a
  ·simp only[Result.andThen,binOp,Sem.run_bind,hE,if_false,Zy];simp[pure]
  ·simp only[Result.andThen,binOp,Sem.run_bind,hE,if_true];simp[pure]
 ·simp at d
theorem jc {v:Value}{l:PL}(a:kL v=some l)(L:BS):Ws w L v l:=by
 unfold kL at a;split at a<;>simp only[Za,reduceCtorEq]at a<;>subst a
 ·exact .bool _
 ·exact .int _ _
 ·exact .Xq
 ·exact .str _
 ·exact .Qo _ rfl
 ·exact .Qo _ rfl
 ·exact .Qo _ rfl
theorem Pj {e g:Type}{f:e->Option g}{R:e->g->Prop}(h:∀x y,f x=some y->R x y):∀{b:List e} {c:List g},Xv f b=some c->XB R b c
 |[],c,hm=>by simp[Xv]at hm;subst hm;exact .nil
 |x::b,c,hm=>by
  simp only[Xv]at hm;cases d:f x with
  |none=>simp[d]at hm
  |some y=>
   simp only[d]at hm;cases a:Xv f b with
   |none=>simp[a]at hm
   |some i=>
    simp only[a,Za]at hm;subst hm;exact .cons (h _ _ d) (Pj h a)
theorem U2 {t:TypeId}{z:N'}(b:zeroOf P t=some z):∃i d,P.info? t=some i/\i.zero=some d/\z.length=i.size/\d.cells.size=i.size/\(∀h:World,(zeroValue t).run P h=.ok d h)/\
  ∀(h:World) (n:BS) (j:Nat->Nat) (o:HF),XB (XE h n j o) d.cells.toList (z.map .p):=by
 unfold zeroOf at b;cases m:P.info? t with
 |none=>simp[m]at b
 |some i=>
 simp only[m]at b;cases c:i.zero with
 |none=>simp[c]at b
 |some d=>
 simp only[c]at b;cases k:Xv kL d.cells.toList with
 |none=>simp[k]at b
 |some q=>
 simp only[k]at b;split at b<;>simp only[Za,reduceCtorEq]at b;subst b;rename_i a;have f:q.length=i.size:=by simpa using a
 clear a;have g:XB (fun v l=>kL v=some l) d.cells.toList q:=Pj (fun _ _ e=>e) k;refine⟨i,d,rfl,c,f,by have:=g.length;simp at this;omega,fun h=>by simp[zeroValue,typeInfo,m,c],fun h n j o=> ?_⟩;clear k f;generalize d.cells.toList=vs at g;induction g with
 |nil=>exact .nil
 |cons r _ s=>exact .cons (.p _ _ (jc r _)) s
theorem mK:∀(c:List Value) (b:Array Value) (a s:Nat),a+s+c.length<=b.size->
  ((c.zipIdx s).foldl (fun(b:Array Value) (x:Value×Nat)=>b.setIfInBounds (a+x.2) x.1) b).toList=b.toList.take (a+s)++c++b.toList.drop (a+s+c.length)
 |[],b,a,s,_=>by simp
 |v::c,b,a,s,hle=>by
  simp only[Zi]at hle;rw[List.zipIdx_cons,List.foldl_cons,mK c _ a (s+1) (by simp;omega)];have e1:a+(s+1)=(a+s)+1:=by omega
  have d:a+s<b.toList.length:=by simp;omega
  rw[Array.toList_setIfInBounds,e1,List.take_succ_eq_append_getElem (by simp;omega),List.take_set_of_le (by omega),List.drop_set_of_lt (by omega)];simp;omega
theorem dT (j:Nat->Option (Nat×Nat)):∀(c:List (Nat×Value)) (b:List (Nat×Nat)) (r:X') (a:Array Value) (l g:Y'),
  XB (fun p q=>j p.1=some q) c b->XB (fun p d=>XA w O μ h p.2 d) c r->XB (XE w O μ h) a.toList l->Ob l b r=some g->
  ∃e,Instr.fill j a c=some e/\XB (XE w O μ h) e.toList g:=by
 intro c;induction c with
 |nil=>
  intro b r a l g s t y k;cases s;cases t;simp only[Ob,Za]at k;subst k;exact⟨a,by simp[Instr.fill],y⟩
 |cons p c L=>
  intro b r a l g s t y k;obtain⟨M,v⟩:=p;cases s with
  |@cons _ q _ b F s=>
  cases t with
  |@cons _ d _ r E t=>
  obtain⟨f,H⟩:=q;simp only at F E;simp only[Ob]at k;cases n:d.cells with
  |none=>simp[n]at k
  |some I=>
  simp only[n]at k;obtain⟨B,k⟩:=Wg k;rw[Zs]at B;have D:=Zl B.1;have J:=W7 B.2;have G:=E.cells n;have A:=G.length;have C:=y.length;simp only[YG]at A C;have i:=mK v.cells.toList a f 0 (by simp;omega);simp only[Z0,YG]at i;have z:XB (XE w O μ h) ((v.cells.toList.zipIdx 0).foldl (fun(l:Array Value) (x:Value×Nat)=>l.setIfInBounds (f+x.2) x.1) a).toList (l.take f++I++l.drop (f+H)):=by
   rw[i,<-D,<-A];exact((y.take f).append G).append (y.drop _)
  obtain⟨e,o,u⟩:=L b r _ _ g s t z k;refine⟨e,?_,u⟩;have m:(decide (v.cells.size≠H)||decide (f+v.cells.size>a.size))=false:=by simp;omega
  rw[Instr.fill,F];simp only[m,Zy,if_false];have K:v.cells.zipIdx=(v.cells.toList.zipIdx 0).toArray:=by apply Array.ext';simp
  rw[K];simpa using o
theorem lG (t:TypeId)(z:N')(c:List (Nat×Nat))(a:Array (Nat×Operand))(M:Operand->Value)(o:Oper)(ho:o.op=.build t a)(hz:zeroOf P t=some z)
  (Z:(∃Q E,P.underlying t=some (.struct Q)/\Xv (fun f:Field=>match Wq P f.type with |some s=>some (f.offset,s)|none=>none) Q.toList=some E/\Xv (fun x:Nat×Operand=>E[x.1]?) a.toList=some c)\/
   (∃m e s,P.underlying t=some (.array m e)/\Wq P e=some s/\c=a.toList.map fun x=>(x.1*s,s)))
  (N:X') (F:XB (fun y d=>XA w O μ h (M y.2) d) a.toList N) (r:Va) (S:PU z c N=some r) (Y:X3 w O μ h):V0 O w μ h n ((execOp M o).run P w) r:=by
 unfold PU at S;cases I:Ob (z.map .p) c N with
 |none=>simp[I]at S
 |some cs=>
 simp only[I,Za]at S;subst S;obtain⟨i,zv,hi,a2,a0,a1,L,C⟩:=U2 hz;have B:XB (fun(p:Nat×Value) d=>XA w O μ h p.2 d) (a.map fun(x:Nat×Operand)=>(x.1,M x.2)).toList N:=by
  rw[Array.toList_map];generalize a.toList=E at F;clear Z I;induction F with
  |nil=>exact .nil
  |cons q _ H=>exact .cons q H
 simp only[execOp,ho];rcases Z with⟨Q,E,X,W,K⟩|⟨m,e,s,X,T,rfl⟩
 ·have g:XB (fun(p:Nat×Value) q=>(fun x=>E.toArray[x]?) p.1=some q) (a.map fun(x:Nat×Operand)=>(x.1,M x.2)).toList c:=by
   rw[Array.toList_map];have:=Pj (R:=fun(x:Nat×Operand) q=>E[x.1]? =some q) (fun _ _ e=>e) K;clear I K F B;generalize a.toList=pt at this;induction this with
   |nil=>exact .nil
   |cons q _ H=>exact .cons (by simpa using q) H
  obtain⟨b,k,A⟩:=dT (fun x=>E.toArray[x]?) _ _ _ zv.cells _ _ g B (C _ _ _ _) I;have J:(Array.mapM (fun f:Field=>do pure (f.offset,<-Go.sizeOf f.type)) Q:Sem (Array (Nat×Nat))).run P w=.ok E.toArray w:=by
   have U:∀(l:List Field) (q:List (Nat×Nat)),Xv (fun f:Field=>match Wq P f.type with |some s=>some (f.offset,s)|none=>none) l=some q->(List.mapM (fun f:Field=>(do pure (f.offset,<-Go.sizeOf f.type):Sem (Nat×Nat))) l).run P w=.ok q w:=by
    intro l;induction l with
    |nil=>intro q D;simp[Xv]at D;subst D;simp
    |cons f l H=>
     intro q D;simp only[Xv]at D;cases u:Wq P f.type with
     |none=>simp[u]at D
     |some s=>
      simp only[u]at D;cases V:Xv (fun f:Field=>match Wq P f.type with |some s=>some (f.offset,s)|none=>none) l with
      |none=>simp[V]at D
      |some q'=>
       simp only[V,Za]at D;subst D;have G:(Go.sizeOf f.type).run P w=.ok s w:=by
        unfold Wq at u;cases j:P.info? f.type with
        |none=>simp[j]at u
        |some fi=>simp only[j,Z6,Za]at u;subst u;simp[Go.sizeOf,typeInfo,j]
       simp only[List.mapM_cons,Sem.run_bind,G,Result.andThen_ok,H _ V,Sem.run_pure]
   rw[Array.mapM_eq_mapM_toList,Sem.run_map];rw[U _ _ W];rfl
  refine X8 (v:=.agg b) Y (WM ?_) ⟨b.toList,by simp,A⟩;simp only[Instr.build,Sem.run_bind,L,Result.andThen_ok,run_underlying X,J,k,Sem.run_pure]
 ·have g:XB (fun(p:Nat×Value) q=>(fun x=>some (x*s,s)) p.1=some q) (a.map fun(x:Nat×Operand)=>(x.1,M x.2)).toList (a.toList.map fun x=>(x.1*s,s)):=by
   rw[Array.toList_map];generalize a.toList=pt;induction pt with
   |nil=>exact .nil
   |cons q _ H=>exact .cons rfl H
  obtain⟨b,k,A⟩:=dT (fun x=>some (x*s,s)) _ _ _ zv.cells _ _ g B (C _ _ _ _) I;have G:(Go.sizeOf e).run P w=.ok s w:=by
   unfold Wq at T;cases j:P.info? e with
   |none=>simp[j]at T
   |some fi=>simp only[j,Z6,Za]at T;subst T;simp[Go.sizeOf,typeInfo,j]
  refine X8 (v:=.agg b) Y (WM ?_) ⟨b.toList,by simp,A⟩;simp only[Instr.build,Sem.run_bind,L,Result.andThen_ok,run_underlying X,G,k,Sem.run_pure]
end
end Go.Ev
