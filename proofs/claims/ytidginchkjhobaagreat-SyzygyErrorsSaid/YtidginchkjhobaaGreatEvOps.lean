/- Operations that leave the heap alone: what the model computes stands for what the interpreter computes. -/
import Derived.Test.YtidginchkjhobaaGreatEvRep
import Derived.ChangeKeysEq
namespace Go.Ev
def TI (h:HF):List (Nat×Xz)->HF
 |[]=>h
 |(id,b)::ws=>TI (fun x=>if x=id then some b else h x) ws
def Ra (h:HF)(n:Nat):List Xz->HF
 |[]=>h
 |b::bs=>Ra (fun x=>if x=n then some b else h x) (n+1) bs
def sE (h:HF)(n:Nat)(r:Vc):HF:=Ra (TI h r.wr) n r.al
def VF (O:BS)(w:World)(μ:Nat->Nat)(h:HF)(n:Nat)(res:Result Next)(r:Vc):Prop:=
 ∃v w' μ',(res=.ok (.value v) w'\/(res=.ok .skip w'/\v=undef))/\XB w' O μ' (sE h n r) v r.val/\X0 w' O μ' (sE h n r)/\WD O w μ h w' μ' (sE h n r)
section
variable {P:Program}{O:BS}{w:World}{μ:Nat->Nat}{h:HF}{n:Nat}
theorem Wy {s:Sem Value}{v:Value}{a:World}(b:s.run P w=.ok v a):(do pure (Next.value (<-s)):Sem Next).run P w=.ok (.value v) a:=by
 simp[Sem.run_bind,b,Result.andThen,Sem.run,pure]
theorem X7 {v:Value}{d:DV}{a:Result Next}(b:X0 w O μ h)(c:a=.ok (.value v) w)(e:XB w O μ h v d):VF O w μ h n a (.pure d):=
 ⟨v,w,μ,.inl c,e,b,WD.refl _ _ _ _⟩
theorem TO {v:Value}{d:DV}{f:List Nat}{a:Result Next}(b:X0 w O μ h)(c:a=.ok (.value v) w)(e:XB w O μ h v d):VF O w μ h n a ⟨d,[],[],f⟩:=
 ⟨v,w,μ,.inl c,e,b,WD.refl _ _ _ _⟩
theorem XB.WX {v:Value}{k:IntKind}{a:Int}(r:XB w O μ h v (.one (.p (.int k a)))):v=.int k a:=by
 have r:XL w O μ h v (.p (.int k a)):=r;cases r with |p _ _ b=>cases b;rfl
theorem XB.SU {v:Value}{b:Bool}(r:XB w O μ h v (.one (.p (.bool b)))):v=.bool b:=by
 have r:XL w O μ h v (.p (.bool b)):=r;cases r with |p _ _ a=>cases a;rfl
theorem XB.ar {v:Value}(r:XB w O μ h v (.one (.p .XC))):v=.slice none 0 0:=by
 have r:XL w O μ h v (.p .XC):=r;cases r with |p _ _ a=>cases a;rfl
theorem XB.int (k:IntKind)(a:Int):XB w O μ h (.int k a) (.one (.p (.int k a))):=XL.p _ _ (.int k a)
theorem XB.bool (b:Bool):XB w O μ h (.bool b) (.one (.p (.bool b))):=XL.p _ _ (.bool b)
theorem dE (c:BinOp)(t:TypeId)(x y:Operand)(k d:IntKind)(a b:Int):(eqGuard c t x y (.int k a) (.int d b)).run P w=.ok () w:=by
 cases c<;>simp[eqGuard,go_sem]
theorem bu (c:BinOp)(t:TypeId)(x y:Operand)(a b:Bool):(eqGuard c t x y (.bool a) (.bool b)).run P w=.ok () w:=by
 cases c<;>simp[eqGuard,go_sem]
theorem NX (e:BinOp)(t:TypeId)(x y:Operand)(p q:Option Addr)(a b c d:Nat):(eqGuard e t x y (.slice p a b) (.slice q c d)).run P w=.ok () w:=by
 cases e<;>simp[eqGuard,go_sem]
theorem rU (n:BinOp)(t:TypeId)(k g:IntKind)(a b:Int)(d:DL)(e:Wr n k g a b=some d):
  ∃l,d=.p l/\∃v,(binOp n t (.int k a) (.int g b)).run P w=.ok v w/\Wt w (Live O μ h) v l:=by
 cases n with
 |shl=>
  simp only[Wr]at e;cases b with
  |negSucc m=>simp[NB]at e
  |ofNat m=>
   simp only[NB,T9,Za]at e;subst e;refine⟨_,rfl,.int k (k.wrap (a*2^(min m k.bits))),?_,?_⟩
   ·simp[binOp,Op.shift,go_sem]
   ·rw[SI,oF];have :Int.ofNat (2^Nat.min m k.bits)=(2:Int)^(min m k.bits):=by simp
    rw[this];exact .int _ _
 |shr=>
  simp only[Wr]at e;cases b with
  |negSucc m=>simp[Qb]at e
  |ofNat m=>
   simp only[Qb,T9,Za]at e;subst e;refine⟨_,rfl,.int k (a.fdiv (2^(min m k.bits))),?_,?_⟩
   ·simp[binOp,Op.shift,go_sem]
   ·rw[AW,oF];exact .int _ _
 |quo=>
  simp only[Wr,VG,Tz,T9]at e;cases f:dG k g<;>simp only[f,cond_true,cond_false,reduceCtorEq]at e;have c:=(VB _ _).1 f;subst c;cases i:Pc b 0<;>simp only[i,cond_true,cond_false,reduceCtorEq,Za]at e;subst e;rw[cc]at i;have j:b≠0:=by simpa using i
  refine⟨_,rfl,.int k (k.wrap (a.tdiv b)),?_,?_⟩
  ·simp[binOp,Op.intDiv,go_sem,j]
  ·rw[SI];exact .int _ _
 |rem=>
  simp only[Wr,VG,U8,T9]at e;cases f:dG k g<;>simp only[f,cond_true,cond_false,reduceCtorEq]at e;have c:=(VB _ _).1 f;subst c;cases i:Pc b 0<;>simp only[i,cond_true,cond_false,reduceCtorEq,Za]at e;subst e;rw[cc]at i;have j:b≠0:=by simpa using i
  refine⟨_,rfl,.int k (a.tmod b),?_,.int _ _⟩;simp[binOp,Op.intDiv,go_sem,j]
 |add=>
  simp only[Wr,VG,T9]at e;cases f:dG k g<;>simp only[f,cond_true,cond_false,reduceCtorEq,Za]at e;have c:=(VB _ _).1 f;subst c;subst e;exact⟨_,rfl,_,by simp[binOp,Op.intArith,SI],.int _ _⟩
 |sub=>
  simp only[Wr,VG,T9]at e;cases f:dG k g<;>simp only[f,cond_true,cond_false,reduceCtorEq,Za]at e;have c:=(VB _ _).1 f;subst c;subst e;exact⟨_,rfl,_,by simp[binOp,Op.intArith,SI],.int _ _⟩
 |mul=>
  simp only[Wr,VG,T9]at e;cases f:dG k g<;>simp only[f,cond_true,cond_false,reduceCtorEq,Za]at e;have c:=(VB _ _).1 f;subst c;subst e;exact⟨_,rfl,_,by simp[binOp,Op.intArith,SI],.int _ _⟩
 |and=>
  simp only[Wr,VG,T9]at e;cases f:dG k g<;>simp only[f,cond_true,cond_false,reduceCtorEq,Za]at e;have c:=(VB _ _).1 f;subst c;subst e;exact⟨_,rfl,_,by rw[and_eq];simp only[binOp,ne_eq,not_true_eq_false,if_false,Op.intBits];rfl,.int _ _⟩
 |or=>
  simp only[Wr,VG,T9]at e;cases f:dG k g<;>simp only[f,cond_true,cond_false,reduceCtorEq,Za]at e;have c:=(VB _ _).1 f;subst c;subst e;exact⟨_,rfl,_,by rw[or_eq];simp only[binOp,ne_eq,not_true_eq_false,if_false,Op.intBits];rfl,.int _ _⟩
 |xor=>
  simp only[Wr,VG,T9]at e;cases f:dG k g<;>simp only[f,cond_true,cond_false,reduceCtorEq,Za]at e;have c:=(VB _ _).1 f;subst c;subst e;exact⟨_,rfl,_,by rw[xor_eq];simp only[binOp,ne_eq,not_true_eq_false,if_false,Op.intBits];rfl,.int _ _⟩
 |andNot=>
  simp only[Wr,VG,T9]at e;cases f:dG k g<;>simp only[f,cond_true,cond_false,reduceCtorEq,Za]at e;have c:=(VB _ _).1 f;subst c;subst e;exact⟨_,rfl,_,by rw[wQ];simp only[binOp,ne_eq,not_true_eq_false,if_false,Op.intBits];rfl,.int _ _⟩
 |eql=>
  simp only[Wr,VG,TX]at e;cases f:dG k g<;>simp only[f,cond_true,cond_false,reduceCtorEq,Za]at e;have c:=(VB _ _).1 f;subst c;subst e;exact⟨_,rfl,_,by simp[binOp,Op.intCmp,cc],.bool _⟩
 |neq=>
  simp only[Wr,VG,TX]at e;cases f:dG k g<;>simp only[f,cond_true,cond_false,reduceCtorEq,Za]at e;have c:=(VB _ _).1 f;subst c;subst e;exact⟨_,rfl,_,by simp[binOp,Op.intCmp,cc,bne],.bool _⟩
 |lss=>
  simp only[Wr,VG,TX]at e;cases f:dG k g<;>simp only[f,cond_true,cond_false,reduceCtorEq,Za]at e;have c:=(VB _ _).1 f;subst c;subst e;exact⟨_,rfl,_,by simp[binOp,Op.intCmp,lD],.bool _⟩
 |leq=>
  simp only[Wr,VG,TX]at e;cases f:dG k g<;>simp only[f,cond_true,cond_false,reduceCtorEq,Za]at e;have c:=(VB _ _).1 f;subst c;subst e;exact⟨_,rfl,_,by simp[binOp,Op.intCmp,y9],.bool _⟩
 |gtr=>
  simp only[Wr,VG,TX]at e;cases f:dG k g<;>simp only[f,cond_true,cond_false,reduceCtorEq,Za]at e;have c:=(VB _ _).1 f;subst c;subst e;exact⟨_,rfl,_,by simp[binOp,Op.intCmp,lD],.bool _⟩
 |geq=>
  simp only[Wr,VG,TX]at e;cases f:dG k g<;>simp only[f,cond_true,cond_false,reduceCtorEq,Za]at e;have c:=(VB _ _).1 f;subst c;subst e;exact⟨_,rfl,_,by simp[binOp,Op.intCmp,y9],.bool _⟩
theorem AU (f:BinOp)(t u:TypeId)(x y:Operand)(i:Operand->Value)(o:Oper)(B:o.op=.binOp f t x y u)
  (j m:DV) (E:XB w O μ h (i x) j) (F:XB w O μ h (i y) m) (r:Vc) (c:fE f [j,m]=some r) (A:X0 w O μ h):
  VF O w μ h n ((execOp i o).run P w) r:=by
 unfold fE at c;split at c
 ·rename_i k a q b e;simp only[ZJ,and_true]at e;obtain⟨rfl,rfl⟩:=e;cases g:Wr f k q a b with
  |none=>simp[g]at c
  |some d=>
  simp only[g,Za]at c;subst c;have s:=E.WX;have z:=F.WX;obtain⟨l,rfl,v,D,C⟩:=rU (P:=P) (w:=w) (O:=O) (μ:=μ) (h:=h) f t k q a b d g;refine X7 (v:=v) A ?_ (XL.p _ _ C);simp only[execOp,B];exact Wy (by simp[Sem.run_bind,s,z,dE,Result.andThen,D])
 ·simp at c
theorem nb (c:Bool)(t u:TypeId)(x y:Operand)(f:Operand->Value)(o:Oper)(p:o.op=.binOp (if c then .neq else .eql) t x y u)(j:P.underlying t=some .bool)
  (g i:DV) (q:XB w O μ h (f x) g) (s:XB w O μ h (f y) i) (r:Vc) (e:Ng c [g,i]=some r) (m:X0 w O μ h):
  VF O w μ h n ((execOp f o).run P w) r:=by
 unfold Ng at e;split at e
 ·rename_i a b d;simp only[ZJ,and_true]at d;obtain⟨rfl,rfl⟩:=d;simp only[Za]at e;subst e;have k:=q.SU;have l:=s.SU;refine X7 (v:=.bool ((a==b)!=c)) m ?_ (XB.bool _);simp only[execOp,p];refine Wy ?_;rw[Sem.run_bind,k,l,bu];cases c
  ·simp only[Result.andThen,binOp,Sem.run_bind,run_equal_bool w t a b j,if_false,Zz];simp[pure]
  ·simp only[Result.andThen,binOp,Sem.run_bind,run_equal_bool w t a b j,if_true];simp[pure]
 ·simp at e
end
end Go.Ev
namespace Go.Ev
section
variable {P:Program}{O:BS}{w:World}{μ:Nat->Nat}{h:HF}{n:Nat}
theorem Us (b o k:Nat):(⟨b,o,none⟩:Addr).add k=⟨b,o+k,none⟩:=by
 unfold Addr.add;split<;>simp_all
theorem XB.BK {v:Value}{a:List Nat}(r:XB w O μ h v (.one (.p (.str a)))):∃s:ByteArray,v=.string s/\a=s.data.toList.map UInt8.toNat:=by
 have r:XL w O μ h v (.p (.str a)):=r;cases r with |p _ _ b=>cases b;exact⟨_,rfl,rfl⟩
theorem XB.dZ {v:Value}{e:List PL}(r:XB w O μ h v (.one (.p (.ref e)))):∃b c,v=.pointer (some ⟨b,c,none⟩)/\∃a:Nat->Value,(∀(j:Nat) (d:PL),e[j]? =some d->¬Live O μ h b)/\
  (∀(j:Nat) (d:PL),e[j]? =some d->w.cell? ⟨b,c+j,none⟩=some (a j))/\(∀(j:Nat) (d:PL),e[j]? =some d->Wt w (Live O μ h) (a j) d):=by
 have r:XL w O μ h v (.p (.ref e)):=r;cases r with |p _ _ i=>cases i with |ref b c _ a g f k=>exact⟨b,c,rfl,a,g,f,k⟩
theorem XB.au {v:Value}{f:List (List PL)}(r:XB w O μ h v (.one (.p (.Xp f)))):∃b g l e n,v=.slice (some ⟨b,g,n⟩) f.length e/\(f=[]\/n=none)/\f.length<=e/\
  (∀(i:Nat) (c:List PL),f[i]? =some c->c.length=l)/\∃a:Nat->Nat->Value,(∀(i:Nat) (c:List PL) (j:Nat) (d:PL),f[i]? =some c->c[j]? =some d->¬Live O μ h b)/\
  (∀(i:Nat) (c:List PL) (j:Nat) (d:PL),f[i]? =some c->c[j]? =some d->w.cell? ⟨b,g+i*l+j,none⟩=some (a i j))/\(∀(i:Nat) (c:List PL) (j:Nat) (d:PL),f[i]? =some c->c[j]? =some d->Wt w (Live O μ h) (a i j) d):=by
 have r:XL w O μ h v (.p (.Xp f)):=r;cases r with |p _ _ s=>cases s with |Xp b g l e _ a q k u o t m=>exact⟨b,g,l,e,_,rfl,m,k,u,a,q,o,t⟩
theorem XB.SE {v:Value}{id XX d c:Nat}(r:XB w O μ h v (.one (.own id XX d c))):∃b g o a,v=.slice (some ⟨g,o,none⟩) c a/\h id=some b/\XX<=b.XX/\c<=a/\
  (XX=b.XX->g=μ id/\∃(C:Array Value) (T:TypeId),w.heap[μ id]? =some (.cells C T (0,0))/\((o=d*b.sz/\(d+a)*b.sz=C.size/\a<=maxLen)\/(c=0/\a=0/\0<d))):=by
 have r:XL w O μ h v (.own id XX d c):=r;cases r with |own _ _ _ _ b g o a e j f i=>exact⟨b,g,o,a,rfl,e,j,f,i⟩
theorem XB.Q6 {v:Value}{id XX i a:Nat}(r:XB w O μ h v (.one (.ptr id XX i a))):∃b g o,v=.pointer (some ⟨g,o,none⟩)/\h id=some b/\XX<=b.XX/\(XX=b.XX->g=μ id/\o=i*b.sz+a):=by
 have r:XL w O μ h v (.ptr id XX i a):=r;cases r with |ptr _ _ _ _ b g o c e d=>exact⟨b,g,o,rfl,c,e,d⟩
theorem mY (x:Operand)(d:Operand->Value)(o:Oper)(a:o.op=.move x\/o.op=.assign x)(b:DV)(f:XB w O μ h (d x) b)(r:Vc)(c:Nc [b]=some r)(e:X0 w O μ h):
  VF O w μ h n ((execOp d o).run P w) r:=by
 simp only[Nc,Za]at c;subst c;refine X7 e ?_ f;rcases a with a|a<;>simp[execOp,a]
theorem kF (x:Operand)(j:Operand->Value)(o:Oper)(s:o.op=.nilCheck x)(z:DV)(d:XB w O μ h (j x) z)(r:Vc)(t:Sj [z]=some r)(m:X0 w O μ h):
  VF O w μ h n ((execOp j o).run P w) r:=by
 unfold Sj at t;split at t<;>simp only[reduceCtorEq,Za]at t<;>subst t<;>rename_i l<;>simp only[ZJ,and_true]at l<;>subst l
 ·obtain⟨b,g,q,e,_⟩:=d.Q6;exact X7 m (by simp[execOp,s,e]) d
 ·obtain⟨b,q,e,_⟩:=d.dZ;exact X7 m (by simp[execOp,s,e]) d
 ·have c:XL w O μ h (j x) (.fn _ _):=d;generalize y:j x=v at c;cases c with
  |fn f k u B A=>obtain⟨g,a,b,e⟩:=jI _ u;have i:=y.trans e;exact X7 m (by simp[execOp,s,i]) d
 ·have c:XL w O μ h (j x) (.p (.fn _ _)):=d;generalize y:j x=v at c;cases c with
  |p _ _ C=>cases C with
   |fn f k u B A=>obtain⟨g,a,b,e⟩:=jI _ u;have i:=y.trans e;exact X7 m (by simp[execOp,s,i]) d
theorem xG (c x y:Operand)(f:Operand->Value)(o:Oper)(l:o.op=.pick c x y)(g i j:DV)(m:XB w O μ h (f c) g)(s:XB w O μ h (f x) i)(t:XB w O μ h (f y) j)(r:Vc)
  (d:Nb [g,i,j]=some r) (k:X0 w O μ h):VF O w μ h n ((execOp f o).run P w) r:=by
 unfold Nb at d;split at d
 ·rename_i b p q a;simp only[ZJ,and_true]at a;obtain⟨rfl,rfl,rfl⟩:=a;simp only[Za]at d;subst d;have e:=m.SU;cases b
  ·exact X7 k (by simp[execOp,l,e,asBool]) t
  ·exact X7 k (by simp[execOp,l,e,asBool]) s
 ·simp at d
theorem xK (s d:TypeId)(k:IntKind)(x:Operand)(g:Operand->Value)(o:Oper)(l:o.op=.convert s d x)(m:∃u,P.underlying s=some u)(j:P.underlying d=some (.int k))(f:DV)(q:XB w O μ h (g x) f)(r:Vc)
  (c:Nf k [f]=some r) (i:X0 w O μ h):VF O w μ h n ((execOp g o).run P w) r:=by
 unfold Nf at c;split at c
 ·rename_i t a b;simp only[ZJ,and_true]at b;subst b;simp only[Za]at c;subst c;have e:=q.WX;obtain⟨u,p⟩:=m;rw[SI];refine X7 i ?_ (XB.int _ _);simp only[execOp,l];exact Wy (by simp[convert,underlying,p,j,e,Conv.intToInt,Sem.run_bind,Result.andThen,go_sem])
 ·simp at c
theorem CX (g:UnOp)(t:TypeId)(x:Operand)(q:Operand->Value)(o:Oper)(m:o.op=.unOp g t x)(i:DV)(p:XB w O μ h (q x) i)(r:Vc)
  (f:fD g [i]=some r) (j:X0 w O μ h):VF O w μ h n ((execOp q o).run P w) r:=by
 cases i with
 |agg _=>simp[fD]at f
 |XZ _=>simp[fD]at f
 |one l=>
 simp only[fD]at f;cases c:DQ g l with
 |none=>simp[c]at f
 |some d=>
 simp only[c,Za]at f;subst f;unfold DQ at c;split at c
 ·rename_i k a;have e:=p.WX;cases g<;>simp only[reduceCtorEq,Za]at c<;>subst c
  ·rw[SI];refine X7 j ?_ (XB.int _ _);simp only[execOp,m];exact Wy (by simp[Op.unary,e,Op.intArith])
  ·rw[xn];refine X7 j ?_ (XB.int _ _);simp only[execOp,m];exact Wy (by simp only[Op.unary,e,Op.intBits];rfl)
 ·rename_i b;have e:=p.SU;cases g<;>simp only[reduceCtorEq,Za]at c<;>subst c;refine X7 j ?_ (XB.bool _);simp only[execOp,m];exact Wy (by simp[Op.unary,e])
 ·simp at c
theorem na (k:Nat)(x:Operand)(j:Operand->Value)(o:Oper)(p:o.op=.extract x k)(i:DV)(q:XB w O μ h (j x) i)(r:Vc)
  (a:Sk k [i]=some r) (l:X0 w O μ h):VF O w μ h n ((execOp j o).run P w) r:=by
 unfold Sk at a;split at a
 ·rename_i s b;simp only[ZJ,and_true]at b;subst b;obtain⟨t,e,m⟩:=q;cases c:s[k]? with
  |none=>simp[c]at a
  |some d=>
  simp only[c,Za]at a;subst a;obtain⟨v,f,g⟩:=m.get k d c;refine X7 l ?_ (XB.Gb g);simp only[execOp,p];exact Wy (by simp[Instr.extract,e,f])
 ·simp at a
theorem AS (t:TypeId)(x:Operand)(j:Operand->Value)(o:Oper)(s:Array TypeId)(u:o.op=.call ⟨.builtin .len,#[x],s⟩)(e:TypeId)(v:s[0]? =some t)(y:P.underlying t=some (.slice e))(m:DV)(l:XB w O μ h (j x) m)(r:Vc)
  (i:Qn [m]=some r) (k:X0 w O μ h):VF O w μ h n ((execOp j o).run P w) r:=by
 have key:∀(p:Option Addr) (c a:Nat),j x=.slice p c a->(execOp j o).run P w=.ok (.value (.int .i64 (Int.ofNat c))) w:=by
  intro p c a d;simp[execOp,u,resolve,invoke,builtin,Builtin.len_,v,d,underlying,y,goInt,Sem.run_bind,Result.andThen,go_sem]
 unfold Qn at i;split at i<;>simp only[reduceCtorEq,Za]at i<;>subst i<;>rename_i f<;>simp only[ZJ,and_true]at f<;>subst f
 ·exact X7 k (key _ _ _ l.ar) (XB.int _ _)
 ·obtain⟨b,z,B,a,A,d,_⟩:=l.au;exact X7 k (key _ _ _ d) (XB.int _ _)
 ·obtain⟨b,g,q,a,d,_⟩:=l.SE;exact X7 k (key _ _ _ d) (XB.int _ _)
end
end Go.Ev
namespace Go.Ev
section
variable {P:Program}{O:BS}{w:World}{μ:Nat->Nat}{h:HF}{n:Nat}
theorem Xv {a:Type}{b:Bool}{x y:a}(h:(bif b then some x else none)=some y):b=true/\x=y:=by
 cases b<;>simp_all
theorem ij (s:TypeId)(z:Array Field)(f:Nat)(l:Field)(i:TypeInfo)(x:Operand)(u:Operand->Value)(o:Oper)(I:o.op=.fieldAddr s x f)(K:P.underlying s=some (.struct z))(F:z[f]? =some l)
  (G:P.info? l.type=some i) (M:i.size≠0) (y:DV) (B:XB w O μ h (u x) y) (r:Vc) (k:V6 l.offset [y]=some r) (A:X0 w O μ h):VF O w μ h n ((execOp u o).run P w) r:=by
 have key:∀(g q:Nat),u x=.pointer (some ⟨g,q,none⟩)->(execOp u o).run P w=.ok (.value (.pointer (some ⟨g,q+l.offset,none⟩))) w:=by
  intro g q m;simp only[execOp,I];refine Wy ?_;simp[Instr.fieldAt,underlying,K,F,m,Instr.sureAddr,fieldPlace,Go.sizeOf,typeInfo,G,M,Sem.run_bind,Result.andThen,go_sem,Us]
 unfold V6 at k;split at k
 ·rename_i Q a;simp only[ZJ,and_true]at a;subst a;obtain⟨_,rfl⟩:=Xv k;obtain⟨b,N,m,t,H,E,J⟩:=B.dZ;refine X7 A (key _ _ m) (XL.p _ _ (.ref _ _ _ (fun j=>t (l.offset+j)) (fun j d c=> ?_) (fun j d c=> ?_) (fun j d c=> ?_)))
  ·rw[Ye]at c;exact H _ _ c
  ·rw[Ye]at c;have:=E _ _ c;rw[Nat.add_assoc];exact this
  ·rw[Ye]at c;exact J _ _ c
 ·rename_i id XX j q a;simp only[ZJ,and_true]at a;subst a;simp only[Za]at k;subst k;obtain⟨b,g,S,m,D,L,v⟩:=B.Q6;exact X7 A (key _ _ m) (XL.ptr _ _ _ _ b _ _ D L fun e=>by obtain⟨C,R⟩:=v e;exact⟨C,by omega⟩)
 ·simp at k
theorem qC (t e:TypeId)(i:TypeInfo)(x M:Operand)(z:Operand->Value)(o:Oper)(ho:o.op=.indexAddr t x M)(ht:P.underlying t=some (.slice e))(hi:P.info? e=some i)
  (R Q:DV) (W:XB w O μ h (z x) R) (D:XB w O μ h (z M) Q) (r:Vc) (u:Vv i.size h [R,Q]=some r) (U:X0 w O μ h):VF O w μ h n ((execOp z o).run P w) r:=by
 have key:∀(g q l m j:Nat) (k:IntKind),z x=.slice (some ⟨g,q,none⟩) l m->z M=.int k (Int.ofNat j)->j<l->(execOp z o).run P w=.ok (.value (.pointer (some ⟨g,q+j*i.size,none⟩))) w:=by
  intro g q l m j k B I a;simp only[execOp,ho];refine Wy ?_;simp[Instr.indexAt,asIntOf,underlying,ht,B,I,Go.sizeOf,typeInfo,hi,Sem.run_bind,Result.andThen,go_sem,Us];intro a0;omega
 unfold Vv at u;split at u
 ·rename_i S k j f;simp only[ZJ,and_true]at f;obtain⟨rfl,rfl⟩:=f;cases s:S[j]? with
  |none=>simp[s]at u
  |some c=>
  simp only[s]at u;obtain⟨H,rfl⟩:=Xv u;obtain⟨b,N,sz,m,sp,B,L,A,hs,G,hl,v,hp⟩:=W.au;obtain rfl:sp=none:=L.resolve_left (fun X=>by rw[X]at s;simp at s);have I:j<S.length:=(Zb.1 s).1;have F:i.size=sz:=by rw[<-hs j c s];exact(Zl H).symm
  refine X7 U (key _ _ _ _ _ _ B D.WX I) (XL.p _ _ (.ref _ _ _ (fun q=>G j q) (fun q d E=>hl j c q d s E) (fun q d E=> ?_) (fun q d E=>hp j c q d s E)));rw[F];exact v j c q d s E
 ·rename_i id XX N l k j f;simp only[ZJ,and_true]at f;obtain⟨rfl,rfl⟩:=f;obtain⟨b,g,q,m,B,V,hv,A,K⟩:=W.SE;simp only[V]at u;obtain⟨a,rfl⟩:=Xv u;rw[Zs]at a;obtain⟨y,a⟩:=a;have y:=Zl y;have a:j<l:=by simpa[Nat.blt_eq]using a
  refine TO U (key _ _ _ _ _ _ B D.WX a) (XL.ptr _ _ _ _ b _ _ V hv fun e=> ?_);obtain⟨Z,C,T,hC,Y⟩:=K e;rcases Y with⟨J,_⟩|⟨h0,_⟩
  ·refine⟨Z,?_⟩;rw[J,y,ZG];simp
  ·omega
 ·simp at u
theorem WS {a b:Nat}(h:Nat.ble a b=true):a<=b:=Nat.le_of_ble_eq_true h
theorem RJ {a b:Nat}(h:Nat.blt a b=true):a<b:=by simpa[Nat.blt_eq]using h
theorem qD (t e:TypeId)(m:Nat)(i:TypeInfo)(x C:Operand)(f:Operand->Value)(o:Oper)(M:o.op=.indexAddr t x C)(Q:P.underlying t=some (.array m e))(J:P.info? e=some i)
  (E D:DV) (G:XB w O μ h (f x) E) (s:XB w O μ h (f C) D) (r:Vc) (u:SN m i.size [E,D]=some r) (F:X0 w O μ h):VF O w μ h n ((execOp f o).run P w) r:=by
 have key:∀(g q j:Nat) (k:IntKind),f x=.pointer (some ⟨g,q,none⟩)->f C=.int k (Int.ofNat j)->j<m->(execOp f o).run P w=.ok (.value (.pointer (some ⟨g,q+j*i.size,none⟩))) w:=by
  intro g q j k l K A;simp only[execOp,M];refine Wy ?_;simp[Instr.indexAt,asIntOf,underlying,Q,l,K,Go.sizeOf,typeInfo,J,Instr.sureAddr,Sem.run_bind,Result.andThen,go_sem,Us,A]
 unfold SN at u;split at u
 ·rename_i T k j a;simp only[ZJ,and_true]at a;obtain⟨rfl,rfl⟩:=a;obtain⟨y,rfl⟩:=Xv u;rw[Zs]at y;obtain⟨b,S,l,v,L,I,N⟩:=G.dZ;refine X7 F (key _ _ _ _ l s.WX (RJ y.1)) (XL.p _ _ (.ref _ _ _ (fun q=>v (j*i.size+q)) (fun q d c=> ?_) (fun q d c=> ?_) (fun q d c=> ?_)))
  ·rw[Ye]at c;exact L _ _ c
  ·rw[Ye]at c;have:=I _ _ c;rw[Nat.add_assoc];exact this
  ·rw[Ye]at c;exact N _ _ c
 ·rename_i id XX V q k j a;simp only[ZJ,and_true]at a;obtain⟨rfl,rfl⟩:=a;obtain⟨y,rfl⟩:=Xv u;obtain⟨b,g,W,l,z,R,B⟩:=G.Q6;exact X7 F (key _ _ _ _ l s.WX (RJ y)) (XL.ptr _ _ _ _ b _ _ z R fun e=>by obtain⟨H,U⟩:=B e;exact⟨H,by omega⟩)
 ·simp at u
theorem jm (t:TypeId)(i:TypeInfo)(b:Bool)(m:cw P t=some b)(r:P.info? t=some i)(xs:List Value)(g:List DL)(l:XF (XL w O μ h) xs g)(a:Nat)(v:DV)(f:Ti b i.size (g.drop a)=some v):
  ∃u,(part t xs.toArray a).run P w=.ok u w/\XB w O μ h u v:=by
 have e:(isAgg t).run P w=.ok b w:=by
  unfold cw at m;unfold isAgg;split at m<;>simp only[Za,reduceCtorEq]at m<;>subst m<;>rename_i n
  ·simp[underlying,n]
  ·simp[underlying,n]
  ·rename_i s x;rename_i d;cases d<;>simp_all [underlying]
 unfold Ti at f;cases b with
 |true=>
  simp only[cond_true]at f;obtain⟨k,rfl⟩:=Xv f;have k:=WS k;refine⟨.agg ((xs.drop a).take i.size).toArray,?_,⟨_,rfl,(l.drop a).take i.size⟩⟩;have p:(Go.sizeOf t).run P w=.ok i.size w:=by simp[Go.sizeOf,typeInfo,r]
  simp[part,Sem.run_bind,e,Result.andThen,p]
 |false=>
  simp only[cond_false]at f;cases o:g.drop a with
  |nil=>simp[o]at f
  |cons c rest=>
  simp only[o,Za]at f;subst f;have h0:g[a]? =some c:=by
   have:=Ye (xs:=g) (i:=a) (j:=0);rw[o]at this;simpa using this.symm
  obtain⟨u,n,q⟩:=l.get a c h0;refine⟨u,?_,q⟩;simp[part,Sem.run_bind,e,Result.andThen,n]
end
end Go.Ev
namespace Go.Ev
section
variable {P:Program}{O:BS}{w:World}{μ:Nat->Nat}{h:HF}{n:Nat}
theorem u0 (t e:TypeId)(i:TypeInfo)(p:Option Addr)(d a:Nat)(q:P.underlying t=some (.slice e))(o:P.info? e=some i)(j b:Option Value)(l u:Nat)
  (g:(j=none/\l=0)\/∃k,j=some (.int k (Int.ofNat l))) (f:(b=none/\u=d)\/∃k,b=some (.int k (Int.ofNat u))) (m:l<=u) (n:u<=a):
  (Instr.sliceAt t (.slice p d a) j b none).run P w=.ok (.slice (if a=l then p else p.map (·.add (l*i.size))) (u-l) (a-l)) w:=by
 have r:∀c,(Instr.sliceBound (.int .i64 (Int.ofNat l)) u c).run P w=.ok l w:=by intro c;simp[Instr.sliceBound,asIntOf];intro;omega
 have h:(Go.sizeOf e).run P w=.ok i.size w:=by simp[Go.sizeOf,typeInfo,o]
 rcases g with⟨rfl,rfl⟩|⟨k,rfl⟩<;>rcases f with⟨rfl,rfl⟩|⟨s,rfl⟩<;>
  simp[Instr.sliceAt,Instr.slice,underlying,q,Instr.sliceBounds,Instr.sliceBound,asIntOf,h,Sem.run_bind,Result.andThen,m,n]
theorem XL.vE {id XX c s l u:Nat}{v:Value}(i:TypeInfo)(b:Xz)(t:h id=some b)(p:b.sz=i.size)(g q a:Nat)(z:XX<=b.XX)(D:l<=u)(E:u<=a)
  (y:XX=b.XX->g=μ id/\∃(C:Array Value) (T:TypeId),w.heap[μ id]? =some (.cells C T (0,0))/\((q=c*b.sz/\(c+a)*b.sz=C.size/\a<=maxLen)\/(s=0/\a=0/\0<c)))
  (A:v=.slice (if a=l then some ⟨g,q,none⟩else some ⟨g,q+l*i.size,none⟩) (u-l) (a-l)):XL w O μ h v (.own id XX (c+l) (u-l)):=by
 subst A;by_cases x:a=l
 ·rw[if_pos x];refine .own id XX (c+l) (u-l) b g q (a-l) t z (by omega) fun e=> ?_
  obtain⟨k,C,T,f,j⟩:=y e;refine⟨k,C,T,f,?_⟩;rcases j with⟨n,r,B⟩|⟨h0,d,o⟩
  ·by_cases m:l=0
   ·subst m;left;exact⟨by simpa using n,by simpa using r,by omega⟩
   ·right;exact⟨by omega,by omega,by omega⟩
  ·right;exact⟨by omega,by omega,by omega⟩
 ·rw[if_neg x];refine .own id XX (c+l) (u-l) b g _ (a-l) t z (by omega) fun e=> ?_
  obtain⟨k,C,T,f,j⟩:=y e;refine⟨k,C,T,f,?_⟩;rcases j with⟨n,r,B⟩|⟨h0,d,o⟩
  ·left;refine⟨by rw[n,p,ZG],?_,by omega⟩;rw[<-r];congr 1;omega
  ·omega
theorem Wt.FW {L:BS}(a:Addr)(e:Nat):Wt w L (.slice (some a) 0 e) (.Xp []):=
 .Xp a.block a.off 0 e [] (fun _ _=>.bool true) (fun i c j d b=>by simp at b) (by simp) (fun i c b=>by simp at b) (fun i c j d b=>by simp at b) (fun i c j d b=>by simp at b) (.inl rfl)
theorem Wt.vW {L:BS}{f:List (List PL)}{v:Value}(i:TypeInfo){b n y a l u:Nat}(C:f.length<=a)(H:∀(i:Nat) (c:List PL),f[i]? =some c->c.length=y)(o:Nat->Nat->Value)
  (F:∀(i:Nat) (c:List PL) (j:Nat) (d:PL),f[i]? =some c->c[j]? =some d->¬L b)
  (D:∀(i:Nat) (c:List PL) (j:Nat) (d:PL),f[i]? =some c->c[j]? =some d->w.cell? ⟨b,n+i*y+j,none⟩=some (o i j))
  (G:∀(i:Nat) (c:List PL) (j:Nat) (d:PL),f[i]? =some c->c[j]? =some d->Wt w L (o i j) d) (I:l<=u) (J:u<=f.length) (B:(∃c,f[l]? =some c)->l≠a->y=i.size)
  (E:v=.slice (if a=l then some ⟨b,n,none⟩else some ⟨b,n+l*i.size,none⟩) (u-l) (a-l)):Wt w L v (.Xp ((f.take u).drop l)):=by
 have m:((f.take u).drop l).length=u-l:=by simp;omega
 have g:∀(k:Nat) (c:List PL),((f.take u).drop l)[k]? =some c->f[l+k]? =some c/\l+k<u:=by
  intro k c h;rw[Ye,Z7]at h;split at h
  ·exact⟨h,by assumption⟩
  ·simp at h
 subst E;by_cases p:a=l
 ·rw[if_pos p];have x:u-l=0:=by omega
  have t:(f.take u).drop l=[]:=Yq (by rw[m,x]);rw[t,x];exact .Xp b n y (a-l) [] (fun _ _=>.bool true) (fun i c j d q=>by simp at q) (by simp) (fun i c q=>by simp at q) (fun i c j d q=>by simp at q) (fun i c j d q=>by simp at q) (.inr rfl)
 ·rw[if_neg p,<-m];refine .Xp b (n+l*i.size) y (a-l) _ (fun k j=>o (l+k) j) (fun k c j d h r=>F _ _ _ _ (g k c h).1 r) (by rw[m];omega) (fun k c h=>H _ _ (g k c h).1) (fun k c j d h r=> ?_) (fun k c j d h r=>G _ _ _ _ (g k c h).1 r) (.inr rfl);have s:=(g k c h).1;have z:l<f.length:=by have:=(Zb.1 s).1;omega
  have A:=B ⟨f[l],by simp[z]⟩ (fun e=>p e.symm);have:=D _ _ _ _ s r;rw[<-A];rw[ZG,<-Nat.add_assoc]at this;exact this
theorem uT (t e:TypeId)(i:TypeInfo)(x:Operand)(L B:Option Operand)(I:Operand->Value)(o:Oper)(ho:o.op=.slice t x L B none)(ht:P.underlying t=some (.slice e))(hi:P.info? e=some i)
  (Z:DV) (ds:List DV) (hx:XB w O μ h (I x) Z) (E:XF (fun y d=>XB w O μ h (I y) d) (L.toList++B.toList) ds) (r:Vc) (K:RT i.size L.isSome B.isSome h (Z::ds)=some r) (N:X0 w O μ h):
  VF O w μ h n ((execOp I o).run P w) r:=by
 unfold RT at K;cases f:VL L.isSome B.isSome (Z::ds)with
 |none=>simp[f]at K
 |some q=>
 obtain⟨y,l,u⟩:=q;simp only[f]at K;have args:Z=.one y/\(∃W:Option Value,L.map I=W/\((W=none/\l=0)\/∃k,W=some (.int k (Int.ofNat l))))/\
   (∃V:Option Value,B.map I=V/\((V=none/\u=none)\/∃k u',V=some (.int k (Int.ofNat u'))/\u=some u')):=by
  cases L with
  |none=>
   cases B with
   |none=>
    cases E;simp only[VL,Option.isSome_none]at f;split at f<;>simp_all
   |some hh=>
    cases E with
    |cons z X=>
     cases X;unfold VL at f;split at f<;>simp_all;obtain⟨rfl,rfl,rfl⟩:=f;exact⟨_,_,z.WX,rfl⟩
  |some ll=>
   cases B with
   |none=>
    cases E with
    |cons z X=>
     cases X;unfold VL at f;split at f<;>simp_all;obtain⟨rfl,rfl,rfl⟩:=f;exact⟨_,z.WX⟩
   |some hh=>
    cases E with
    |cons z X=>cases X with
     |cons A t2=>
      cases t2;unfold VL at f;split at f<;>simp_all;obtain⟨rfl,rfl,rfl⟩:=f;exact⟨⟨_,z.WX⟩,_,_,A.WX,rfl⟩
 obtain⟨rfl,⟨W,a3,a2⟩,a5,a1,a0⟩:=args;have key:∀(p:Option Addr) (s j:Nat),I x=.slice p s j->l<=u.getD s->u.getD s<=j->
   (execOp I o).run P w=.ok (.value (.slice (if j=l then p else p.map (·.add (l*i.size))) (u.getD s-l) (j-l))) w:=by
  intro p s j J z A;simp only[execOp,ho];refine Wy ?_;rw[J,a3,a1];refine u0 t e i p s j ht hi W a5 l (u.getD s) a2 ?_ z A;rcases a0 with⟨a,b⟩|⟨k,u',a,b⟩
  ·exact .inl ⟨a,by rw[b];rfl⟩
  ·exact .inr ⟨k,by rw[a,b];rfl⟩
 cases m:WI i.size h y l u with
 |none=>simp[m]at K
 |some q=>
 obtain⟨d,rd⟩:=q;simp only[m,Za]at K;subst K;unfold WI at m;split at m
 ·
  rename_i es;obtain⟨D,v⟩:=Xv m;simp only[Zo]at v;obtain⟨rfl,rfl⟩:=v;simp only[Zs]at D;obtain⟨b,a6,sz,j,sp,J,a4,F,hs,Y,hl,H,hp⟩:=hx.au;have z:=WS D.1.1;have A:=WS D.1.2;rcases a4 with rfl|rfl
  ·refine TO N (key _ _ _ J z (by omega)) (XL.p _ _ ?_);have e1:u.getD 0-l=0:=by simp only[Zu]at A;omega
   have e2:(([]:List (List PL)).take (u.getD 0)).drop l=[]:=by simp
   simp only[Zu]at e1⊢;rw[e1,e2];split
   ·exact Wt.FW _ _
   ·exact Wt.FW _ _
  refine TO N (key _ _ _ J z (by omega)) (XL.p _ _ (Wt.vW i F hs Y hl H hp z A (fun⟨c,R⟩ _=> ?_) ?_))
  ·have:=D.2;rw[R]at this;rw[<-hs l c R];exact Zl this
  ·split<;>simp[Us]
 ·
  obtain⟨D,v⟩:=Xv m;simp only[Zo]at v;obtain⟨rfl,rfl⟩:=v;simp only[Zs]at D;have z:=Zl D.1;have A:=Zl D.2;subst z;refine TO N ((key _ _ _ hx.ar (by omega) (by omega)).trans ?_) (XL.p _ _ .XC);simp[A]
 ·
  rename_i id XX a6 s;obtain⟨b,g,q,j,J,G,V,F,U⟩:=hx.SE;simp only[G]at m;obtain⟨D,v⟩:=Xv m;simp only[Zo]at v;obtain⟨rfl,rfl⟩:=v;simp only[Zs]at D;have z:=WS D.1.1;have h3:=Zl D.2;have A:u.getD s<=j:=by
   rcases Bool.or_eq_true_iff.1 D.1.2 with A|A
   ·have:=WS A;omega
   ·simp only[Zs,Yx]at A;obtain⟨⟨⟨⟨e1,e2⟩,e3⟩,e4⟩,e5⟩:=A;have e1:=Zl e1;have e3:=Zl e3;have e4:=RJ e4;have e5:=WS e5;obtain⟨_,C,T,hC,hd⟩:=U e1.symm;have Q:=N.QG id b G;simp only[WJ,e2,Zz,if_false]at Q;obtain⟨C',M,S,_⟩:=Q;rw[hC]at M;cases M;rcases hd with⟨_,hz,_⟩|⟨_,_,a7⟩
    ·rw[e3,Z8]at hz;rw[<-hz]at S;have:=Nat.le_of_mul_le_mul_right S (by omega:0<b.sz);omega
    ·omega
  refine TO N (key _ _ _ J z A) (XL.vE i b G h3 g q j V z A U ?_);split<;>simp[Us]
 ·simp at m
theorem qx (t e:TypeId)(i:TypeInfo)(x C f D:Operand)(j:Operand->Value)(o:Oper)(L:o.op=.slice t x (some C) (some f) (some D))(M:P.underlying t=some (.slice e))(K:P.info? e=some i)
  (A u y z:DV) (N:XB w O μ h (j x) A) (F:XB w O μ h (j C) u) (G:XB w O μ h (j f) y) (H:XB w O μ h (j D) z) (r:Vc) (l:Ql [A,u,y,z]=some r) (I:X0 w O μ h):
  VF O w μ h n ((execOp j o).run P w) r:=by
 unfold Ql at l;split at l
 ·rename_i id XX R Q U a V b W c d;simp only[ZJ,and_true]at d;obtain⟨rfl,rfl,rfl,rfl⟩:=d
  ·obtain⟨k,rfl⟩:=Xv l;simp only[Zs]at k;have e1:=WS k.1.1;have e2:=WS k.1.2;have T:=WS k.2;obtain⟨S,g,q,m,J,_,_,B,_⟩:=N.SE;have s:(Go.sizeOf e).run P w=.ok i.size w:=by simp[Go.sizeOf,typeInfo,K]
   have E:c<=m:=by omega
   refine X7 (v:=.slice (if c=a then some ⟨g,q,none⟩else(some (⟨g,q,none⟩:Addr)).map (·.add (a*i.size))) (b-a) (c-a)) I ?_ (XL.p _ _ (.RB _ rfl));simp only[execOp,L];refine Wy ?_;rw[J];simp[Z4,F.WX,G.WX,H.WX,Instr.sliceAt,Instr.slice,underlying,M,Instr.sliceBounds,Instr.sliceBound,asIntOf,s,Sem.run_bind,Result.andThen,e1,e2,E]
 ·simp at l
theorem xI (t:TypeId)(m:Nat)(e:TypeId)(x:Operand)(j:Operand->Value)(o:Oper)(b:Array TypeId)(f:o.op=.call ⟨.builtin .len,#[x],b⟩)(g:b[0]? =some t)(i:P.underlying t=some (.array m e))(c:DV)(r:Vc)
  (a:Nd m [c]=some r) (d:X0 w O μ h):VF O w μ h n ((execOp j o).run P w) r:=by
 simp only[Nd,Za]at a;subst a;refine X7 (v:=.int .i64 (Int.ofNat m)) d ?_ (XB.int _ _);simp[execOp,f,resolve,invoke,builtin,Builtin.len_,g,underlying,i,goInt,Sem.run_bind,Result.andThen,go_sem]
theorem X3 {a:Type}{b:Bool}{x:Option a}{y:a}(h:(bif b then x else none)=some y):b=true/\x=some y:=by
 cases b<;>simp_all
theorem uU (s:TypeId)(m:Array Field)(f:Nat)(c:Field)(i:TypeInfo)(b:Bool)(x:Operand)(p:Operand->Value)(o:Oper)(A:o.op=.field s x f)(B:P.underlying s=some (.struct m))(y:m[f]? =some c)
  (t:cw P c.type=some b) (z:P.info? c.type=some i) (l:DV) (D:XB w O μ h (p x) l) (r:Vc) (a:QY b i.size c.offset [l]=some r) (q:X0 w O μ h):VF O w μ h n ((execOp p o).run P w) r:=by
 unfold QY at a;split at a
 ·rename_i k d;simp only[ZJ,and_true]at d;subst d;obtain⟨_,a⟩:=X3 a;cases g:Ti b i.size (k.drop c.offset)with
  |none=>simp[g]at a
  |some v=>
  simp only[g,Za]at a;subst a;obtain⟨E,e,j⟩:=D;obtain⟨u,C,a⟩:=jm (P:=P) c.type i b t z E k j c.offset v g;refine X7 q ?_ a;simp only[execOp,A];exact Wy (by simp[Instr.field,underlying,B,y,e,asAgg,Sem.run_bind,Result.andThen,C])
 ·simp at a
theorem qA (t e:TypeId)(m:Nat)(i:TypeInfo)(b:Bool)(x C:Operand)(q:Operand->Value)(o:Oper)(G:o.op=.index t x C)(H:P.underlying t=some (.array m e))(F:cw P e=some b)(B:P.info? e=some i)
  (z y:DV) (J:XB w O μ h (q x) z) (d:XB w O μ h (q C) y) (r:Vc) (a:UP m b i.size [z,y]=some r) (E:X0 w O μ h):VF O w μ h n ((execOp q o).run P w) r:=by
 unfold UP at a;split at a
 ·rename_i s k j c;simp only[ZJ,and_true]at c;obtain⟨rfl,rfl⟩:=c;obtain⟨A,a⟩:=X3 a;rw[Zs]at A;have f:=RJ A.1;cases l:Ti b i.size (s.drop (j*i.size))with
  |none=>simp[l]at a
  |some v=>
  simp only[l,Za]at a;subst a;obtain⟨K,D,p⟩:=J;obtain⟨u,I,a⟩:=jm (P:=P) e i b F B K s p (j*i.size) v l;have g:(Go.sizeOf e).run P w=.ok i.size w:=by simp[Go.sizeOf,typeInfo,B]
  refine X7 E ?_ a;simp only[execOp,G];exact Wy (by simp[Instr.index,underlying,H,D,d.WX,asIntOf,Sem.run_bind,Result.andThen,f,g,I])
 ·simp at a
theorem kG (t:TypeId)(x p:Operand)(i:Operand->Value)(o:Oper)(z:o.op=.index t x p)(B:P.underlying t=some .string)
  (m l:DV) (C:XB w O μ h (i x) m) (g:XB w O μ h (i p) l) (r:Vc) (a:VR [m,l]=some r) (y:X0 w O μ h):VF O w μ h n ((execOp i o).run P w) r:=by
 unfold VR at a;split at a
 ·rename_i q k j e;simp only[ZJ,and_true]at e;obtain⟨rfl,rfl⟩:=e;cases d:q[j]? with
  |none=>simp[d]at a
  |some b=>
  simp only[d,Za]at a;subst a;obtain⟨s,u,rfl⟩:=C.BK;rw[ZA]at d;cases f:s.data.toList[j]? with
  |none=>simp[f]at d
  |some c=>
  simp only[f,Z4,Za]at d;subst d;refine X7 (v:=.int .u8 c.toNat) y ?_ (XB.int _ _);simp only[execOp,z];have A:s[j]? =some c:=by
   rw[Array.getElem?_toList]at f;exact f
  exact Wy (by simp[Instr.index,underlying,B,u,g.WX,asIntOf,Sem.run_bind,Result.andThen,A])
 ·simp at a
end
end Go.Ev
namespace Go.Ev
section
variable {P:Program}{O:BS}{w:World}{μ:Nat->Nat}{h:HF}{n:Nat}
theorem jz {v:Value}{l:DL}{b:Bool}(d:XB w O μ h v (.one l))(a:l.isNil=some b):∃p f c,v=.slice p f c/\p.isNone=b:=by
 unfold DL.isNil at a;split at a<;>simp only[Za,reduceCtorEq]at a<;>subst a
 ·exact⟨_,_,_,d.ar,rfl⟩
 ·obtain⟨g,q,_,_,_,e,_⟩:=d.au;exact⟨_,_,_,e,rfl⟩
 ·obtain⟨_,g,q,_,e,_⟩:=d.SE;exact⟨_,_,_,e,rfl⟩
theorem dC (j:Nat)(t e:TypeId)(p q:Option Addr)(a b c d:Nat)(x y:Bool)(i:P.underlying t=some (.slice e))(f:p.isNone=x)(h:q.isNone=y)(g:x=true\/y=true):
  (Op.equalIn (j+1) t (.slice p a b) (.slice q c d)).run P w=.ok (x&&y) w:=by
 cases p with
 |none=>
  simp at f;subst f;simp[Op.equalIn,underlying,i,h]
 |some p=>
  simp at f;subst f;have k:y=true:=by simpa using g
  subst k;cases q with
  |some q=>simp at h
  |none=>simp[Op.equalIn,underlying,i]
theorem iw (t e:TypeId)(p q:Option Addr)(a b c d:Nat)(x y:Bool)(i:P.underlying t=some (.slice e))(g:p.isNone=x)(h:q.isNone=y)(f:x=true\/y=true):
  (Op.equal t (.slice p a b) (.slice q c d)).run P w=.ok (x&&y) w:=dC 9999 t e p q a b c d x y i g h f
theorem eT (c:Bool)(t u e:TypeId)(x y:Operand)(j:Operand->Value)(o:Oper)(D:o.op=.binOp (if c then .neq else .eql) t x y u)(G:P.underlying t=some (.slice e))
  (k l:DV) (H:XB w O μ h (j x) k) (I:XB w O μ h (j y) l) (r:Vc) (f:VZ c [k,l]=some r) (v:X0 w O μ h):
  VF O w μ h n ((execOp j o).run P w) r:=by
 cases k with
 |agg _=>simp[VZ]at f
 |XZ _=>simp[VZ]at f
 |one z=>
 cases l with
 |agg _=>simp[VZ]at f
 |XZ _=>simp[VZ]at f
 |one A=>
 simp only[VZ]at f;cases d:rh c z A with
 |none=>simp[d]at f
 |some L=>
 simp only[d,Za]at f;subst f;have key:∀(a b:Bool),z.isNil=some a->A.isNil=some b->(a=true\/b=true)->(execOp j o).run P w=.ok (.value (.bool ((a&&b)!=c))) w:=by
  intro a b g i m;obtain⟨p,J,B,e1,E⟩:=jz H g;obtain⟨q,K,C,e2,F⟩:=jz I i;simp only[execOp,D];refine Wy ?_;rw[Sem.run_bind,e1,e2,NX];have s:=iw (w:=w) t e p q J B K C a b G E F m;cases c
  ·simp only[Result.andThen,binOp,Sem.run_bind,s,if_false,Zz];simp[pure]
  ·simp only[Result.andThen,binOp,Sem.run_bind,s,if_true];simp[pure]
 unfold rh at d;split at d
 ·rename_i b g i;simp only[Za]at d;subst d;refine X7 v (key _ _ g i (.inl rfl)) ?_;simpa using XB.bool _
 ·rename_i g i;simp only[Za]at d;subst d;refine X7 v (key _ _ g i (.inr rfl)) ?_;have :((false&&true)!=c)=c:=by cases c<;>rfl
  rw[this];exact XB.bool _
 ·simp at d
theorem P7 {k:IntKind}:∀{g e:List DL} {b:Bool},Wh k g e=some b->∀{m j:List Value},XF (XL w O μ h) m g->XF (XL w O μ h) j e->
  ∃as i:List Int,m=as.map (Value.int k)/\j=i.map (Value.int k)/\as.length=i.length/\b=(as==i):=by
 intro g;induction g with
 |nil=>
  intro e b d m j t o;cases e with
  |nil=>simp[Wh]at d;subst d;cases t;cases o;exact⟨[],[],rfl,rfl,rfl,rfl⟩
  |cons y e=>simp[Wh]at d
 |cons x g D=>
  intro e b d m j t o;cases x with
  |own _ _ _ _=>simp[Wh]at d
  |ptr _ _ _ _=>simp[Wh]at d
  |fn _ _=>simp[Wh]at d
  |mp _=>simp[Wh]at d
  |p l=>
  cases l with
  |bool _=>simp[Wh]at d
  |XC=>simp[Wh]at d
  |Xp _=>simp[Wh]at d
  |ref _=>simp[Wh]at d
  |fn _ _=>simp[Wh]at d
  |str _=>simp[Wh]at d
  |RB=>simp[Wh]at d
  |int E a=>
  cases e with
  |nil=>simp[Wh]at d
  |cons y e=>
  cases y with
  |own _ _ _ _=>simp[Wh]at d
  |ptr _ _ _ _=>simp[Wh]at d
  |fn _ _=>simp[Wh]at d
  |mp _=>simp[Wh]at d
  |p l=>
  cases l with
  |bool _=>simp[Wh]at d
  |XC=>simp[Wh]at d
  |Xp _=>simp[Wh]at d
  |ref _=>simp[Wh]at d
  |fn _ _=>simp[Wh]at d
  |str _=>simp[Wh]at d
  |RB=>simp[Wh]at d
  |int F c=>
  simp only[Wh]at d;obtain⟨B,f⟩:=X3 d;clear d;rw[Zs,VB,VB]at B;obtain⟨z,A⟩:=B;have z:=z.symm;subst z;have A:=A.symm;subst A;cases n:Wh k g e with
  |none=>simp[n]at f
  |some r=>
  simp only[n,Za]at f;cases t with
  |cons u v=>cases o with
   |cons q s=>
    obtain⟨as,i,rfl,rfl,C,rfl⟩:=D n v s;have e1:=XB.WX (u:XB w O μ h _ (.one _));have e2:=XB.WX (q:XB w O μ h _ (.one _));refine⟨a::as,c::i,by rw[e1];rfl,by rw[e2];rfl,by simp[C],?_⟩;rw[<-f,cc];rfl
theorem sS (c:Bool)(D:Array Operand)(B:Operand->Value)(o:Oper)(Q:Array TypeId)(M:o.op=.call ⟨.builtin (if c then .min else .max),D,Q⟩)
  (s:List DV) (x:XF (fun y d=>XB w O μ h (B y) d) D.toList s) (r:Vc) (t:Rx (if c then(fun a b=>Tf b a)else Tf) s=some r) (N:X0 w O μ h):VF O w μ h n ((execOp B o).run P w) r:=by
 have u:∀(m:List Value) (s:List DV) (k:IntKind) (a:Int) (d:DV),XF (XB w O μ h) m s->maxD (if c then(fun a b=>Tf b a)else Tf) k a s=some d->
   ∃v,(List.foldlM (if c then Builtin.min2 else Builtin.max2) (Value.int k a) m).run P w=.ok v w/\XB w O μ h v d:=by
  intro m s;induction s generalizing m with
  |nil=>
   intro k a d J g;cases J;simp only[maxD,Za]at g;subst g;exact⟨.int k a,by simp,XB.int _ _⟩
  |cons y T L=>
   intro k a d J g;cases y with
   |agg _=>simp[maxD]at g
   |XZ _=>simp[maxD]at g
   |one l=>
   cases l with
   |own _ _ _ _=>simp[maxD]at g
   |ptr _ _ _ _=>simp[maxD]at g
   |fn _ _=>simp[maxD]at g
   |mp _=>simp[maxD]at g
   |p l=>
   cases l with
   |bool _=>simp[maxD]at g
   |XC=>simp[maxD]at g
   |Xp _=>simp[maxD]at g
   |ref _=>simp[maxD]at g
   |fn _ _=>simp[maxD]at g
   |str _=>simp[maxD]at g
   |RB=>simp[maxD]at g
   |int R b=>
   simp only[maxD]at g;obtain⟨I,H⟩:=X3 g;clear g;have I:=(VB _ _).1 I;subst I;cases J with
   |cons E F=>
    obtain⟨v,f,j⟩:=L _ k _ d F H;refine⟨v,?_,j⟩;have e:=E.WX;rw[List.foldlM_cons,Sem.run_bind,e];have step:((if c then Builtin.min2 else Builtin.max2) (Value.int k a) (Value.int k b)).run P w=.ok (.int k (bif(if c then(fun a b=>Tf b a)else Tf) a b then b else a)) w:=by
     cases c<;>simp[Builtin.min2,Builtin.max2,lD,Bool.cond_decide]
    rw[step];exact f
 unfold Rx at t;split at t
 ·rename_i k a m;generalize z:D.toList=xl at x;cases x with
  |cons E F=>
   rename_i S A;cases C:maxD (if c then(fun a b=>Tf b a)else Tf) k a m with
   |none=>simp[C]at t
   |some d=>
   simp only[C,Za]at t;subst t;have G:XF (XB w O μ h) (A.map B) m:=by
    clear C z;induction F with
    |nil=>exact .nil
    |cons q _ L=>exact .cons q L
   obtain⟨v,f,j⟩:=u _ m k a d G C;refine X7 N ?_ j;have K:=E.WX;have i:(D.map B).toList=Value.int k a::A.map B:=by rw[Array.toList_map,z];simp[K]
   cases c
   ·simp only[execOp,M,resolve,Zz,if_false];simp only[Sem.run_bind,pure,Sem.run,Result.andThen,invoke,builtin,Builtin.max_,i];simp only[Zz,if_false]at f;rw[f]
   ·simp only[execOp,M,resolve,if_true];simp only[Sem.run_bind,pure,Sem.run,Result.andThen,invoke,builtin,Builtin.min_,i];simp only[if_true]at f;rw[f]
 ·simp at t
theorem NT (f:Nat)(a:Array Operand)(e:Operand->Value)(o:Oper)(k:(Nat.blt f NA=true/\o.op=.makeFunc (.func f) #[] a)\/(Nat.blt f NA=false/\o.op=.makeFunc (.func (f-NA)) a #[]))
  (c:List DV) (q:XF (fun y d=>XB w O μ h (e y) d) a.toList c) (r:Vc) (g:UN f c=some r) (B:X0 w O μ h):VF O w μ h n ((execOp e o).run P w) r:=by
 unfold UN at g;cases t:Xt q7 c with
 |none=>simp[t]at g
 |some j=>
 simp only[t,Za]at g;subst g;have key:∀(p:List Operand) (c:List DV) (j:List DL),XF (fun y d=>XB w O μ h (e y) d) p c->Xt q7 c=some j->XF (XL w O μ h) (p.map e) j:=by
  intro p c j D;induction D generalizing j with
  |nil=>intro b;simp[Xt]at b;subst b;exact .nil
  |@cons y d p c A _ F=>
   intro b;simp only[Xt]at b;cases d with
   |agg _=>simp[q7]at b
   |XZ _=>simp[q7]at b
   |one l=>
    simp only[q7]at b;cases u:Xt q7 c with
    |none=>simp[u]at b
    |some H=>
     simp only[u,Za]at b;subst b;exact .cons A (F _ u)
 have x:=key _ _ _ q t;have z:(a.map e)=(a.toList.map e).toArray:=by apply Array.ext';simp
 refine X7 (v:=wk f (a.toList.map e)) B ?_ ?_
 ·rcases k with⟨s,k⟩|⟨s,k⟩
  ·simp only[execOp,k,wk,s,cond_true,<-z];exact Wy (by simp[Instr.makeFunc])
  ·simp only[execOp,k,wk,s,cond_false,<-z];exact Wy (by simp[Instr.makeFunc])
 ·exact XL.fn f j _ x.length fun i d v C E=>by
   obtain⟨G,m,g⟩:=x.get i d C;rw[E]at m;cases m;exact g
end
end Go.Ev
namespace Go.Ev
section
variable {P:Program}{O:BS}{w:World}{μ:Nat->Nat}{h:HF}{n:Nat}
theorem QU (e:TypeId)(k:IntKind)(d:P.underlying e=some (.int k))(as:List Int)(j:Nat)(a:Int)(c:as[j]? =some a):
  (part e (as.map (Value.int k)).toArray j).run P w=.ok (.int k a) w:=by
 have b:(isAgg e).run P w=.ok false w:=by simp[isAgg,underlying,d]
 simp[part,Sem.run_bind,b,Result.andThen,c]
theorem Qh (d:Nat)(e:TypeId)(k:IntKind)(b:P.underlying e=some (.int k))(as a:List Int)(j:as.length=a.length):∀(m s:Nat),s+m=as.length->
  (Op.eqItems (d+1) e 1 (as.map (Value.int k)).toArray (a.map (Value.int k)).toArray (List.range' s m)).run P w=.ok (as.drop s==a.drop s) w:=by
 intro m;induction m with
 |zero=>
  intro s h;rw[Zm (by omega),Zm (by omega)];simp[Op.eqItems]
 |succ m i=>
  intro s h;have c:s<as.length:=by omega
  have f:s<a.length:=by omega
  rw[List.range'_succ];simp only[Op.eqItems,ZX,Sem.run_bind,QU e k b as s _ (Zf c),QU e k b a s _ (Zf f),Result.andThen_ok];have g:(Op.equalIn (d+1) e (.int k as[s]) (.int k a[s])).run P w=.ok (as[s]==a[s]) w:=by
   simp[Op.equalIn,underlying,b]
  rw[g];simp only[Result.andThen_ok];rw[ZV c,ZV f];rw[show((as[s]::as.drop (s+1))==(a[s]::a.drop (s+1)))=((as[s]==a[s])&&(as.drop (s+1)==a.drop (s+1)))from rfl];cases(as[s]==a[s])
  ·simp only[YO,if_true,Bool.false_and,Sem.run_pure]
  ·simp only[Bool.not_true,Zz,if_false,YF];exact i (s+1) (by omega)
theorem run_eqGuard_agg (a:BinOp)(t:TypeId)(x y:Operand)(c d:Array Value)(b:P.eqGuardType P.depth t=false):(eqGuard a t x y (.agg c) (.agg d)).run P w=.ok () w:=by
 cases a<;>simp[eqGuard,go_sem,b]
theorem eU (a:Bool)(t u e:TypeId)(k:IntKind)(m:Nat)(i:TypeInfo)(x y:Operand)(q:Operand->Value)(o:Oper)(K:o.op=.binOp (if a then .neq else .eql) t x y u)(M:P.underlying t=some (.array m e))
  (H:P.underlying e=some (.int k)) (B:P.info? e=some i) (L:i.size=1) (I:P.eqGuardType P.depth t=false)
  (s z:DV) (N:XB w O μ h (q x) s) (Q:XB w O μ h (q y) z) (r:Vc) (d:Ul a k m [s,z]=some r) (E:X0 w O μ h):
  VF O w μ h n ((execOp q o).run P w) r:=by
 unfold Ul at d;split at d
 ·rename_i R S f;simp only[ZJ,and_true]at f;obtain⟨rfl,rfl⟩:=f;obtain⟨c,d⟩:=X3 d;have c:=Zl c;cases l:Wh k R S with
  |none=>simp[l]at d
  |some b=>
  simp only[l,Za]at d;subst d;obtain⟨U,C,g⟩:=N;obtain⟨T,D,p⟩:=Q;obtain⟨as,j,rfl,rfl,J,rfl⟩:=P7 l g p;have F:as.length=m:=by have:=g.length;simp at this;omega
  have G:P.cellsOf e=1:=by simp[Program.cellsOf,B,L]
  have A:(Op.equal t (.agg (as.map (Value.int k)).toArray) (.agg (j.map (Value.int k)).toArray)).run P w=.ok (as==j) w:=by
   show(Op.equalIn (9999+1) t _ _).run P w=_;rw[run_equalIn_array w 9999 _ _ M B,G,List.range_eq_range'];have:=Qh (P:=P) (w:=w) 9998 e k H as j J m 0 (by omega);simpa using this
  refine X7 (v:=.bool ((as==j)!=a)) E ?_ (XB.bool _);simp only[execOp,K];refine Wy ?_;rw[Sem.run_bind,C,D,run_eqGuard_agg _ _ _ _ _ _ I];cases a
  ·simp only[Result.andThen,binOp,Sem.run_bind,A,if_false,Zz];simp[pure]
  ·simp only[Result.andThen,binOp,Sem.run_bind,A,if_true];simp[pure]
 ·simp at d
theorem fP {v:Value}{l:PL}(a:iC v=some l)(L:BS):Wt w L v l:=by
 unfold iC at a;split at a<;>simp only[Za,reduceCtorEq]at a<;>subst a
 ·exact .bool _
 ·exact .int _ _
 ·exact .XC
 ·exact .str _
 ·exact .RB _ rfl
 ·exact .RB _ rfl
 ·exact .RB _ rfl
theorem Qo {e g:Type}{f:e->Option g}{R:e->g->Prop}(h:∀x y,f x=some y->R x y):∀{b:List e} {c:List g},Xt f b=some c->XF R b c
 |[],c,hm=>by simp[Xt]at hm;subst hm;exact .nil
 |x::b,c,hm=>by
  simp only[Xt]at hm;cases d:f x with
  |none=>simp[d]at hm
  |some y=>
   simp only[d]at hm;cases a:Xt f b with
   |none=>simp[a]at hm
   |some i=>
    simp only[a,Za]at hm;subst hm;exact .cons (h _ _ d) (Qo h a)
theorem UG {t:TypeId}{z:List PL}(b:zeroOf P t=some z):∃i d,P.info? t=some i/\i.zero=some d/\z.length=i.size/\d.cells.size=i.size/\(∀h:World,(zeroValue t).run P h=.ok d h)/\
  ∀(h:World) (n:BS) (j:Nat->Nat) (o:HF),XF (XL h n j o) d.cells.toList (z.map .p):=by
 unfold zeroOf at b;cases m:P.info? t with
 |none=>simp[m]at b
 |some i=>
 simp only[m]at b;cases c:i.zero with
 |none=>simp[c]at b
 |some d=>
 simp only[c]at b;cases k:Xt iC d.cells.toList with
 |none=>simp[k]at b
 |some q=>
 simp only[k]at b;split at b<;>simp only[Za,reduceCtorEq]at b;subst b;rename_i a;have f:q.length=i.size:=by simpa using a
 clear a;have g:XF (fun v l=>iC v=some l) d.cells.toList q:=Qo (fun _ _ e=>e) k;refine⟨i,d,rfl,c,f,by have:=g.length;simp at this;omega,fun h=>by simp[zeroValue,typeInfo,m,c],fun h n j o=> ?_⟩;clear k f;generalize d.cells.toList=vs at g;induction g with
 |nil=>exact .nil
 |cons r _ s=>exact .cons (.p _ _ (fP r _)) s
theorem jG:∀(c:List Value) (b:Array Value) (a s:Nat),a+s+c.length<=b.size->
  ((c.zipIdx s).foldl (fun(b:Array Value) (x:Value×Nat)=>b.setIfInBounds (a+x.2) x.1) b).toList=b.toList.take (a+s)++c++b.toList.drop (a+s+c.length)
 |[],b,a,s,_=>by simp
 |v::c,b,a,s,hle=>by
  simp only[Zi]at hle;rw[List.zipIdx_cons,List.foldl_cons,jG c _ a (s+1) (by simp;omega)];have e1:a+(s+1)=(a+s)+1:=by omega
  have d:a+s<b.toList.length:=by simp;omega
  rw[Array.toList_setIfInBounds,e1,List.take_succ_eq_append_getElem (by simp;omega),List.take_set_of_le (by omega),List.drop_set_of_lt (by omega)];simp;omega
theorem bW (j:Nat->Option (Nat×Nat)):∀(c:List (Nat×Value)) (b:List (Nat×Nat)) (r:List DV) (a:Array Value) (l g:List DL),
  XF (fun p q=>j p.1=some q) c b->XF (fun p d=>XB w O μ h p.2 d) c r->XF (XL w O μ h) a.toList l->Pn l b r=some g->
  ∃e,Instr.fill j a c=some e/\XF (XL w O μ h) e.toList g:=by
 intro c;induction c with
 |nil=>
  intro b r a l g s t y k;cases s;cases t;simp only[Pn,Za]at k;subst k;exact⟨a,by simp[Instr.fill],y⟩
 |cons p c L=>
  intro b r a l g s t y k;obtain⟨M,v⟩:=p;cases s with
  |@cons _ q _ b F s=>
  cases t with
  |@cons _ d _ r E t=>
  obtain⟨f,H⟩:=q;simp only at F E;simp only[Pn]at k;cases n:d.cells with
  |none=>simp[n]at k
  |some I=>
  simp only[n]at k;obtain⟨B,k⟩:=X3 k;rw[Zs]at B;have D:=Zl B.1;have J:=WS B.2;have G:=E.cells n;have A:=G.length;have C:=y.length;simp only[YH]at A C;have i:=jG v.cells.toList a f 0 (by simp;omega);simp only[Yk,YH]at i;have z:XF (XL w O μ h) ((v.cells.toList.zipIdx 0).foldl (fun(l:Array Value) (x:Value×Nat)=>l.setIfInBounds (f+x.2) x.1) a).toList (l.take f++I++l.drop (f+H)):=by
   rw[i,<-D,<-A];exact((y.take f).append G).append (y.drop _)
  obtain⟨e,o,u⟩:=L b r _ _ g s t z k;refine⟨e,?_,u⟩;have m:(decide (v.cells.size≠H)||decide (f+v.cells.size>a.size))=false:=by simp;omega
  rw[Instr.fill,F];simp only[m,Zz,if_false];have K:v.cells.zipIdx=(v.cells.toList.zipIdx 0).toArray:=by apply Array.ext';simp
  rw[K];simpa using o
theorem iY (t:TypeId)(z:List PL)(c:List (Nat×Nat))(a:Array (Nat×Operand))(M:Operand->Value)(o:Oper)(ho:o.op=.build t a)(hz:zeroOf P t=some z)
  (Z:(∃Q E,P.underlying t=some (.struct Q)/\Xt (fun f:Field=>match Wn P f.type with |some s=>some (f.offset,s)|none=>none) Q.toList=some E/\Xt (fun x:Nat×Operand=>E[x.1]?) a.toList=some c)\/
   (∃m e s,P.underlying t=some (.array m e)/\Wn P e=some s/\c=a.toList.map fun x=>(x.1*s,s)))
  (N:List DV) (F:XF (fun y d=>XB w O μ h (M y.2) d) a.toList N) (r:Vc) (S:Q0 z c N=some r) (Y:X0 w O μ h):VF O w μ h n ((execOp M o).run P w) r:=by
 unfold Q0 at S;cases I:Pn (z.map .p) c N with
 |none=>simp[I]at S
 |some cs=>
 simp only[I,Za]at S;subst S;obtain⟨i,zv,hi,a2,a0,a1,L,C⟩:=UG hz;have B:XF (fun(p:Nat×Value) d=>XB w O μ h p.2 d) (a.map fun(x:Nat×Operand)=>(x.1,M x.2)).toList N:=by
  rw[Array.toList_map];generalize a.toList=E at F;clear Z I;induction F with
  |nil=>exact .nil
  |cons q _ H=>exact .cons q H
 simp only[execOp,ho];rcases Z with⟨Q,E,X,W,K⟩|⟨m,e,s,X,T,rfl⟩
 ·have g:XF (fun(p:Nat×Value) q=>(fun x=>E.toArray[x]?) p.1=some q) (a.map fun(x:Nat×Operand)=>(x.1,M x.2)).toList c:=by
   rw[Array.toList_map];have:=Qo (R:=fun(x:Nat×Operand) q=>E[x.1]? =some q) (fun _ _ e=>e) K;clear I K F B;generalize a.toList=pt at this;induction this with
   |nil=>exact .nil
   |cons q _ H=>exact .cons (by simpa using q) H
  obtain⟨b,k,A⟩:=bW (fun x=>E.toArray[x]?) _ _ _ zv.cells _ _ g B (C _ _ _ _) I;have J:(Array.mapM (fun f:Field=>do pure (f.offset,<-Go.sizeOf f.type)) Q:Sem (Array (Nat×Nat))).run P w=.ok E.toArray w:=by
   have U:∀(l:List Field) (q:List (Nat×Nat)),Xt (fun f:Field=>match Wn P f.type with |some s=>some (f.offset,s)|none=>none) l=some q->(List.mapM (fun f:Field=>(do pure (f.offset,<-Go.sizeOf f.type):Sem (Nat×Nat))) l).run P w=.ok q w:=by
    intro l;induction l with
    |nil=>intro q D;simp[Xt]at D;subst D;simp
    |cons f l H=>
     intro q D;simp only[Xt]at D;cases u:Wn P f.type with
     |none=>simp[u]at D
     |some s=>
      simp only[u]at D;cases V:Xt (fun f:Field=>match Wn P f.type with |some s=>some (f.offset,s)|none=>none) l with
      |none=>simp[V]at D
      |some q'=>
       simp only[V,Za]at D;subst D;have G:(Go.sizeOf f.type).run P w=.ok s w:=by
        unfold Wn at u;cases j:P.info? f.type with
        |none=>simp[j]at u
        |some fi=>simp only[j,Z4,Za]at u;subst u;simp[Go.sizeOf,typeInfo,j]
       simp only[List.mapM_cons,Sem.run_bind,G,Result.andThen_ok,H _ V,Sem.run_pure]
   rw[Array.mapM_eq_mapM_toList,Sem.run_map];rw[U _ _ W];rfl
  refine X7 (v:=.agg b) Y (Wy ?_) ⟨b.toList,by simp,A⟩;simp only[Instr.build,Sem.run_bind,L,Result.andThen_ok,run_underlying X,J,k,Sem.run_pure]
 ·have g:XF (fun(p:Nat×Value) q=>(fun x=>some (x*s,s)) p.1=some q) (a.map fun(x:Nat×Operand)=>(x.1,M x.2)).toList (a.toList.map fun x=>(x.1*s,s)):=by
   rw[Array.toList_map];generalize a.toList=pt;induction pt with
   |nil=>exact .nil
   |cons q _ H=>exact .cons rfl H
  obtain⟨b,k,A⟩:=bW (fun x=>some (x*s,s)) _ _ _ zv.cells _ _ g B (C _ _ _ _) I;have G:(Go.sizeOf e).run P w=.ok s w:=by
   unfold Wn at T;cases j:P.info? e with
   |none=>simp[j]at T
   |some fi=>simp only[j,Z4,Za]at T;subst T;simp[Go.sizeOf,typeInfo,j]
  refine X7 (v:=.agg b) Y (Wy ?_) ⟨b.toList,by simp,A⟩;simp only[Instr.build,Sem.run_bind,L,Result.andThen_ok,run_underlying X,G,k,Sem.run_pure]
end
end Go.Ev
