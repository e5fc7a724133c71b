/- Operations that leave the heap alone: what the model computes stands for what the interpreter computes. -/
import Derived.Test.YtidginchkjhobaaGreatEvRep
import Derived.ChangeKeysEq
namespace Go.Ev
def SC (h:HF):List (Nat×Xx)->HF
 |[]=>h
 |(id,b)::ws=>SC (fun x=>if x=id then some b else h x) ws
def RX (h:HF)(n:Nat):V'->HF
 |[]=>h
 |b::bs=>RX (fun x=>if x=n then some b else h x) (n+1) bs
def rz (h:HF)(n:Nat)(r:Vk):HF:=RX (SC h r.wr) n r.al
def V5 (O:BS)(w:World)(μ:Nat->Nat)(h:HF)(n:Nat)(res:Result Next)(r:Vk):Prop:=
 ∃v w' μ',(res=.ok (.value v) w'\/(res=.ok .skip w'/\v=undef))/\XF w' O μ' (rz h n r) v r.val/\X1 w' O μ' (rz h n r)/\WL O w μ h w' μ' (rz h n r)
section
variable {P:Program}{O:BS}{w:World}{μ:Nat->Nat}{h:HF}{n:Nat}
theorem Ur {s:Sem Value}{v}{a}(b:s.run P w=.ok v a):(do pure (Next.value (<-s)):Sem Next).run P w=.ok (.value v) a:=by simp_all
theorem Wb {v}{d}{a}(b:X1 w O μ h)(c:a=.ok (.value v) w)(e:XF w O μ h v d):V5 O w μ h n a (.pure d):=
 ⟨v,w,μ,.inl c,e,b,WL.refl _ _ _ _⟩
theorem SF {v}{d}{f}{a}(b:X1 w O μ h)(c:a=.ok (.value v) w)(e:XF w O μ h v d):V5 O w μ h n a ⟨d,[],[],f⟩:=
 ⟨v,w,μ,.inl c,e,b,WL.refl _ _ _ _⟩
theorem XF.Vh {v}{k}{a}(r:XF w O μ h v (.one (.p (.int k a)))):v=.int k a:=by
 have r:XH w O μ h v (.p (.int k a)):=r;cases r with |p _ _ b=>cases b;rfl
theorem XF.RK {v}{b}(r:XF w O μ h v (.one (.p (.bool b)))):v=.bool b:=by
 have r:XH w O μ h v (.p (.bool b)):=r;cases r with |p _ _ a=>cases a;rfl
theorem XF.cM {v}(r:XF w O μ h v (.one (.p .Xp))):v=.slice none 0 0:=by
 have r:XH w O μ h v (.p .Xp):=r;cases r with |p _ _ a=>cases a;rfl
theorem XF.int (k)(a):XF w O μ h (.int k a) (.one (.p (.int k a))):=XH.p _ _ (.int k a)
theorem XF.bool (b):XF w O μ h (.bool b) (.one (.p (.bool b))):=XH.p _ _ (.bool b)
theorem gE (d:BinOp)(t:TypeId)(x y:Operand)(k c)(a b):(eqGuard d t x y (.int k a) (.int c b)).run P w=.ok () w:=by simp_all [eqGuard]
theorem ee (c:BinOp)(t:TypeId)(x y:Operand)(a b):(eqGuard c t x y (.bool a) (.bool b)).run P w=.ok () w:=by simp_all [eqGuard]
theorem bV (e:BinOp)(t:TypeId)(x y:Operand)(p q:Option Addr)(a b c d):(eqGuard e t x y (.slice p a b) (.slice q c d)).run P w=.ok () w:=by simp_all [eqGuard]
theorem xE (n:BinOp)(t:TypeId)(k g)(a b)(d)(e:WK n k g a b=some d):
  ∃l,d=.p l/\∃v,(binOp n t (.int k a) (.int g b)).run P w=.ok v w/\Ws w (Live O μ h) v l:=by
 cases n with
 |shl=>
  simp only[WK]at e;cases b with
  |negSucc m=>simp[bD]at e
  |ofNat m=>
   simp only[bD,S5,Zb]at e;subst e;refine⟨_,rfl,.int k (k.wrap (a*2^(min m k.bits))),?_,?_⟩
   ·simp[binOp,Op.shift,go_sem]
   ·rw[Ry,uf];have :Int.ofNat (2^Nat.min m k.bits)=(2:Int)^(min m k.bits):=by simp
    rw[this];exact .int _ _
 |shr=>
  simp only[WK]at e;cases b with
  |negSucc m=>simp[Pc]at e
  |ofNat m=>
   simp only[Pc,S5,Zb]at e;subst e;refine⟨_,rfl,.int k (a.fdiv (2^(min m k.bits))),?_,?_⟩
   ·simp[binOp,Op.shift,go_sem]
   ·rw[Gw,uf];exact .int _ _
 |quo=>
  simp only[WK,V6,U5,S5]at e;cases f:gG k g<;>simp only[f,cond_true,cond_false,reduceCtorEq]at e;have c:=(V0 _ _).1 f;subst c;cases i:Nr b 0<;>simp only[i,cond_true,cond_false,reduceCtorEq,Zb]at e;subst e;rw[kT]at i;have j:b≠0:=by simpa using i
  refine⟨_,rfl,.int k (k.wrap (a.tdiv b)),?_,?_⟩
  ·simp_all [binOp,Op.intDiv]
  ·rw[Ry];exact .int _ _
 |rem=>
  simp only[WK,V6,TN,S5]at e;cases f:gG k g<;>simp only[f,cond_true,cond_false,reduceCtorEq]at e;have c:=(V0 _ _).1 f;subst c;cases i:Nr b 0<;>simp only[i,cond_true,cond_false,reduceCtorEq,Zb]at e;subst e;rw[kT]at i;have j:b≠0:=by simpa using i
  refine⟨_,rfl,.int k (a.tmod b),?_,.int _ _⟩
  simp_all [binOp,Op.intDiv]
 |add=>
  simp only[WK,V6,S5]at e;cases f:gG k g<;>simp only[f,cond_true,cond_false,reduceCtorEq,Zb]at e;have c:=(V0 _ _).1 f;subst c;subst e;exact⟨_,rfl,_,by simp[binOp,Op.intArith,Ry],.int _ _⟩
 |sub=>
  simp only[WK,V6,S5]at e;cases f:gG k g<;>simp only[f,cond_true,cond_false,reduceCtorEq,Zb]at e;have c:=(V0 _ _).1 f;subst c;subst e;exact⟨_,rfl,_,by simp[binOp,Op.intArith,Ry],.int _ _⟩
 |mul=>
  simp only[WK,V6,S5]at e;cases f:gG k g<;>simp only[f,cond_true,cond_false,reduceCtorEq,Zb]at e;have c:=(V0 _ _).1 f;subst c;subst e;exact⟨_,rfl,_,by simp[binOp,Op.intArith,Ry],.int _ _⟩
 |and=>
  simp only[WK,V6,S5]at e;cases f:gG k g<;>simp only[f,cond_true,cond_false,reduceCtorEq,Zb]at e;have c:=(V0 _ _).1 f;subst c;subst e;exact⟨_,rfl,_,by rw[and_eq];simp_all [binOp,Op.intBits],.int _ _⟩
 |or=>
  simp only[WK,V6,S5]at e;cases f:gG k g<;>simp only[f,cond_true,cond_false,reduceCtorEq,Zb]at e;have c:=(V0 _ _).1 f;subst c;subst e;exact⟨_,rfl,_,by rw[or_eq];simp_all [binOp,Op.intBits],.int _ _⟩
 |xor=>
  simp only[WK,V6,S5]at e;cases f:gG k g<;>simp only[f,cond_true,cond_false,reduceCtorEq,Zb]at e;have c:=(V0 _ _).1 f;subst c;subst e;exact⟨_,rfl,_,by rw[xor_eq];simp_all [binOp,Op.intBits],.int _ _⟩
 |andNot=>
  simp only[WK,V6,S5]at e;cases f:gG k g<;>simp only[f,cond_true,cond_false,reduceCtorEq,Zb]at e;have c:=(V0 _ _).1 f;subst c;subst e;exact⟨_,rfl,_,by rw[Cd];simp_all [binOp,Op.intBits],.int _ _⟩
 |eql=>
  simp only[WK,V6,SS]at e;cases f:gG k g<;>simp only[f,cond_true,cond_false,reduceCtorEq,Zb]at e;have c:=(V0 _ _).1 f;subst c;subst e;exact⟨_,rfl,_,by simp[binOp,Op.intCmp,kT],.bool _⟩
 |neq=>
  simp only[WK,V6,SS]at e;cases f:gG k g<;>simp only[f,cond_true,cond_false,reduceCtorEq,Zb]at e;have c:=(V0 _ _).1 f;subst c;subst e;exact⟨_,rfl,_,by simp[binOp,Op.intCmp,kT,bne],.bool _⟩
 |lss=>
  simp only[WK,V6,SS]at e;cases f:gG k g<;>simp only[f,cond_true,cond_false,reduceCtorEq,Zb]at e;have c:=(V0 _ _).1 f;subst c;subst e;exact⟨_,rfl,_,by simp[binOp,Op.intCmp,qk],.bool _⟩
 |leq=>
  simp only[WK,V6,SS]at e;cases f:gG k g<;>simp only[f,cond_true,cond_false,reduceCtorEq,Zb]at e;have c:=(V0 _ _).1 f;subst c;subst e;exact⟨_,rfl,_,by simp[binOp,Op.intCmp,Ep],.bool _⟩
 |gtr=>
  simp only[WK,V6,SS]at e;cases f:gG k g<;>simp only[f,cond_true,cond_false,reduceCtorEq,Zb]at e;have c:=(V0 _ _).1 f;subst c;subst e;exact⟨_,rfl,_,by simp[binOp,Op.intCmp,qk],.bool _⟩
 |geq=>
  simp only[WK,V6,SS]at e;cases f:gG k g<;>simp only[f,cond_true,cond_false,reduceCtorEq,Zb]at e;have c:=(V0 _ _).1 f;subst c;subst e;exact⟨_,rfl,_,by simp[binOp,Op.intCmp,Ep],.bool _⟩
theorem Gu (f:BinOp)(t u:TypeId)(x y:Operand)(i:Operand->Value)(o)(E:o.op=.binOp f t x y u)
  (j m) (A:XF w O μ h (i x) j) (B:XF w O μ h (i y) m) (r) (c:jJ f [j,m]=some r) (s:X1 w O μ h):
  V5 O w μ h n ((execOp i o).run P w) r:=by
 unfold jJ at c;split at c
 ·rename_i k a q b e;simp only[ZG,and_true]at e;obtain⟨rfl,rfl⟩:=e;cases g:WK f k q a b with
  |none=>simp[g]at c
  |some d=>
  simp only[g,Zb]at c;subst c;have C:=A.Vh;have D:=B.Vh;obtain⟨l,rfl,v,F,z⟩:=xE (P:=P) (w:=w) (O:=O) (μ:=μ) (h:=h) f t k q a b d g;refine Wb (v:=v) s ?_ (XH.p _ _ z)
  grind [execOp,Ur,Sem.run_bind,gE,Result.andThen]
 ·simp at c
theorem sB (c)(t u:TypeId)(x y:Operand)(f:Operand->Value)(o)(m:o.op=.binOp (if c then .neq else .eql) t x y u)(s:P.underlying t=some .bool)
  (g i) (p:XF w O μ h (f x) g) (q:XF w O μ h (f y) i) (r) (e:be c [g,i]=some r) (l:X1 w O μ h):
  V5 O w μ h n ((execOp f o).run P w) r:=by
 unfold be at e;split at e
 ·rename_i a b d;simp only[ZG,and_true]at d;obtain⟨rfl,rfl⟩:=d;simp only[Zb]at e;subst e;have j:=p.RK;have k:=q.RK;refine Wb (v:=.bool ((a==b)!=c)) l ?_ (XF.bool _);simp only[execOp,m];refine Ur ?_;rw[Sem.run_bind,j,k,ee];cases c
  ·simp_all [binOp,run_equal_bool]
  simp_all [binOp,run_equal_bool]
 ·simp at e
end
section
variable {P:Program}{O:BS}{w:World}{μ:Nat->Nat}{h:HF}{n:Nat}
theorem UX (b o k):(⟨b,o,none⟩:Addr).add k=⟨b,o+k,none⟩:=by grind [Addr.add]
theorem XF.Hn {v}{a}(r:XF w O μ h v (.one (.p (.str a)))):∃s:ByteArray,v=.string s/\a=s.data.toList.map UInt8.toNat:=by
 have r:XH w O μ h v (.p (.str a)):=r;cases r with |p _ _ b=>cases b;exact⟨_,rfl,rfl⟩
theorem XF.gY {v:Value}{e:N'}(r:XF w O μ h v (.one (.p (.ref e)))):∃b c,v=.pointer (some ⟨b,c,none⟩)/\∃a:Nat->Value,(∀(j:Nat) (d:PL),e[j]? =some d->¬Live O μ h b)/\
  (∀(j:Nat) (d:PL),e[j]? =some d->w.cell? ⟨b,c+j,none⟩=some (a j))/\(∀(j:Nat) (d:PL),e[j]? =some d->Ws w (Live O μ h) (a j) d):=by
 have r:XH w O μ h v (.p (.ref e)):=r;cases r with |p _ _ i=>cases i with |ref b c _ a g f k=>exact⟨b,c,rfl,a,g,f,k⟩
theorem XF.cO {v:Value}{f:Z'}(r:XF w O μ h v (.one (.p (.Xl f)))):∃b g l e n,v=.slice (some ⟨b,g,n⟩) f.length e/\(f=[]\/n=none)/\f.length<=e/\
  (∀(i:Nat) (c:N'),f[i]? =some c->c.length=l)/\∃a:Nat->Nat->Value,(∀(i:Nat) (c:N') (j:Nat) (d:PL),f[i]? =some c->c[j]? =some d->¬Live O μ h b)/\
  (∀(i:Nat) (c:N') (j:Nat) (d:PL),f[i]? =some c->c[j]? =some d->w.cell? ⟨b,g+i*l+j,none⟩=some (a i j))/\(∀(i:Nat) (c:N') (j:Nat) (d:PL),f[i]? =some c->c[j]? =some d->Ws w (Live O μ h) (a i j) d):=by
 have r:XH w O μ h v (.p (.Xl f)):=r;cases r with |p _ _ s=>cases s with |Xl b g l e _ a q k u o t m=>exact⟨b,g,l,e,_,rfl,m,k,u,a,q,o,t⟩
theorem XF.Rv {v}{id XW d c}(r:XF w O μ h v (.one (.own id XW d c))):∃b g o a,v=.slice (some ⟨g,o,none⟩) c a/\h id=some b/\XW<=b.XW/\c<=a/\
  (XW=b.XW->g=μ id/\∃(C:Array Value) (T:TypeId),w.heap[μ id]? =some (.cells C T (0,0))/\((o=d*b.sz/\(d+a)*b.sz=C.size/\a<=maxLen)\/(c=0/\a=0/\0<d))):=by
 have r:XH w O μ h v (.own id XW d c):=r;cases r with |own _ _ _ _ b g o a e j f i=>grind
theorem XF.Ou {v}{id XW i a}(r:XF w O μ h v (.one (.ptr id XW i a))):∃b g o,v=.pointer (some ⟨g,o,none⟩)/\h id=some b/\XW<=b.XW/\(XW=b.XW->g=μ id/\o=i*b.sz+a):=by
 have r:XH w O μ h v (.ptr id XW i a):=r;cases r with |ptr _ _ _ _ b g o c e d=>grind
theorem sw (x:Operand)(d:Operand->Value)(o)(a:o.op=.move x\/o.op=.assign x)(b)(f:XF w O μ h (d x) b)(r)(c:ba [b]=some r)(e:X1 w O μ h):
  V5 O w μ h n ((execOp d o).run P w) r:=by
 simp only[ba,Zb]at c;subst c;refine Wb e ?_ f;rcases a with a|a<;>simp[execOp,a]
theorem pA (x:Operand)(d:Operand->Value)(o:Oper)(C:o.op=.nilCheck x)(u:DV)(l:XF w O μ h (d x) u)(r:Vk)(k:Re [u]=some r)(B:X1 w O μ h):
  V5 O w μ h n ((execOp d o).run P w) r:=by
 unfold Re at k;split at k<;>simp only[reduceCtorEq,Zb]at k<;>subst k<;>rename_i j<;>simp only[ZG,and_true]at j<;>subst j
 ·obtain⟨b,g,q,e,_⟩:=l.Ou
  simp_all [Wb,execOp]
 ·obtain⟨b,q,e,_⟩:=l.gY
  simp_all [Wb,execOp]
 ·have c:XH w O μ h (d x) (.fn _ _):=l;generalize s:d x=v at c;cases c with
  |fn f i m z y=>obtain⟨g,a,b,e⟩:=od _ m;have t:=s.trans e;simp_all [Wb,execOp]
 ·have c:XH w O μ h (d x) (.p (.fn _ _)):=l;generalize s:d x=v at c;cases c with
  |p _ _ A=>cases A with
   |fn f i m z y=>obtain⟨g,a,b,e⟩:=od _ m;have t:=s.trans e;simp_all [Wb,execOp]
theorem CX (c x y:Operand)(f:Operand->Value)(o)(m:o.op=.pick c x y)(g i j)(k:XF w O μ h (f c) g)(s:XF w O μ h (f x) i)(t:XF w O μ h (f y) j)(r)
  (d:aZ [g,i,j]=some r) (l:X1 w O μ h):V5 O w μ h n ((execOp f o).run P w) r:=by
 unfold aZ at d;split at d
 ·rename_i b p q a;simp only[ZG,and_true]at a;obtain⟨rfl,rfl,rfl⟩:=a;simp only[Zb]at d;subst d;have e:=k.RK;cases b
  ·simp_all [Wb,execOp,asBool]
  simp_all [Wb,execOp,asBool]
 ·simp at d
theorem C4 (s d:TypeId)(k)(x:Operand)(g:Operand->Value)(o)(p:o.op=.convert s d x)(i:∃u,P.underlying s=some u)(m:P.underlying d=some (.int k))(f)(j:XF w O μ h (g x) f)(r)
  (c:bd k [f]=some r) (l:X1 w O μ h):V5 O w μ h n ((execOp g o).run P w) r:=by
 unfold bd at c;split at c
 ·rename_i t a b;simp only[ZG,and_true]at b;subst b;simp only[Zb]at c;subst c;have e:=j.Vh;obtain⟨u,q⟩:=i
  simp_all [Ry,Wb,XF.int,execOp,convert,underlying,Conv.intToInt]
 ·simp at c
theorem I5 (g:UnOp)(t:TypeId)(x:Operand)(m:Operand->Value)(o)(q:o.op=.unOp g t x)(i)(j:XF w O μ h (m x) i)(r)
  (f:jI g [i]=some r) (p:X1 w O μ h):V5 O w μ h n ((execOp m o).run P w) r:=by
 cases i with
 |agg _=>simp[jI]at f
 |Wd _=>simp[jI]at f
 |one l=>
 simp only[jI]at f;cases c:J4 g l with
 |none=>simp[c]at f
 |some d=>
 simp only[c,Zb]at f;subst f;unfold J4 at c;split at c
 ·rename_i k a;have e:=j.Vh;cases g<;>simp only[reduceCtorEq,Zb]at c<;>subst c
  ·simp_all [Ry,Wb,XF.int,execOp,Op.unary,Op.intArith]
  ·rw[CA]
   simp_all [Wb,XF.int,execOp,Op.unary,Op.intBits]
 ·rename_i b;have e:=j.RK;cases g<;>simp only[reduceCtorEq,Zb]at c<;>subst c
  simp_all [Wb,XF.bool,execOp,Op.unary]
 ·simp at c
theorem sA (k)(x:Operand)(g:Operand->Value)(o)(s:o.op=.extract x k)(f)(m:XF w O μ h (g x) f)(r)
  (a:Rf k [f]=some r) (q:X1 w O μ h):V5 O w μ h n ((execOp g o).run P w) r:=by
 unfold Rf at a;split at a
 ·rename_i p b;simp only[ZG,and_true]at b;subst b;obtain⟨t,e,i⟩:=m;cases c:p[k]? with
  |none=>simp[c]at a
  |some d=>
  simp only[c,Zb]at a;subst a;obtain⟨v,j,l⟩:=i.get k d c
  simp_all [Wb,XF.YR,execOp,Instr.extract]
 ·simp at a
theorem Gs (t:TypeId)(x:Operand)(i:Operand->Value)(o:Oper)(l:Array TypeId)(v:o.op=.call ⟨.builtin .len,#[x],l⟩)(e:TypeId)(y:l[0]? =some t)(z:P.underlying t=some (.slice e))(k:DV)(j:XF w O μ h (i x) k)(r:Vk)
  (f:OE [k]=some r) (m:X1 w O μ h):V5 O w μ h n ((execOp i o).run P w) r:=by
 have key:∀(p:Option Addr) (d a:Nat),i x=.slice p d a->(execOp i o).run P w=.ok (.value (.int .i64 (Int.ofNat d))) w:=by
  simp_all [execOp,resolve,invoke,builtin,Builtin.len_,underlying,goInt]
 unfold OE at f;split at f<;>simp only[reduceCtorEq,Zb]at f<;>subst f<;>rename_i c<;>simp only[ZG,and_true]at c<;>subst c
 ·exact Wb m (key _ _ _ j.cM) (XF.int _ _)
 ·obtain⟨b,u,B,a,A,s,_⟩:=j.cO
  grind [Wb,XF.int]
 ·obtain⟨b,g,q,a,s,_⟩:=j.Rv
  grind [Wb,XF.int]
end
section
variable {P:Program}{O:BS}{w:World}{μ:Nat->Nat}{h:HF}{n:Nat}
theorem X4 {a:Type}{b:Bool}{x y:a}(h:(bif b then some x else none)=some y):b=true/\x=y:=by
 cases b<;>simp_all
theorem mh (s:TypeId)(v:Array Field)(f:Nat)(k:Field)(i:TypeInfo)(x:Operand)(m:Operand->Value)(o:Oper)(K:o.op=.fieldAddr s x f)(M:P.underlying s=some (.struct v))(H:v[f]? =some k)
  (I:P.info? k.type=some i) (N:i.size≠0) (u:DV) (A:XF w O μ h (m x) u) (r:Vk) (c:UE k.offset [u]=some r) (y:X1 w O μ h):V5 O w μ h n ((execOp m o).run P w) r:=by
 have key:∀(g q:Nat),m x=.pointer (some ⟨g,q,none⟩)->(execOp m o).run P w=.ok (.value (.pointer (some ⟨g,q+k.offset,none⟩))) w:=by
  simp_all [execOp,Instr.fieldAt,underlying,Instr.sureAddr,fieldPlace,Go.sizeOf,typeInfo,UX]
 unfold UE at c;split at c
 ·rename_i F a;simp only[ZG,and_true]at a;subst a;obtain⟨_,rfl⟩:=X4 c;obtain⟨b,E,t,l,J,G,L⟩:=A.gY;refine Wb y (key _ _ t) (XH.p _ _ (.ref _ _ _ (fun j=>l (k.offset+j)) (fun j d z=> ?_) (fun j d z=> ?_) (fun j d z=> ?_)))
  ·grind
  ·grind
  grind
 ·rename_i id XW j q a;simp only[ZG,and_true]at a;subst a;simp only[Zb]at c;subst c;obtain⟨b,g,Q,t,B,D,C⟩:=A.Ou;exact Wb y (key _ _ t) (XH.ptr _ _ _ _ b _ _ B D fun e=>by omega)
 ·simp at c
theorem vS (t e:TypeId)(i:TypeInfo)(x H:Operand)(u:Operand->Value)(o:Oper)(W:o.op=.indexAddr t x H)(Z:P.underlying t=some (.slice e))(T:P.info? e=some i)
  (K J:DV) (R:XF w O μ h (u x) K) (A:XF w O μ h (u H) J) (r:Vk) (s:VX i.size h [K,J]=some r) (M:X1 w O μ h):V5 O w μ h n ((execOp u o).run P w) r:=by
 have key:∀(g q l m j:Nat) (k:IntKind),u x=.slice (some ⟨g,q,none⟩) l m->u H=.int k (Int.ofNat j)->j<l->(execOp u o).run P w=.ok (.value (.pointer (some ⟨g,q+j*i.size,none⟩))) w:=by
  intro g q l m j k z F a;simp only[execOp,W];refine Ur ?_;simp[Instr.indexAt,asIntOf,underlying,Z,z,F,Go.sizeOf,typeInfo,T,Sem.run_bind,Result.andThen,go_sem,UX];intro V;omega
 unfold VX at s;split at s
 ·rename_i L k j f;simp only[ZG,and_true]at f;obtain⟨rfl,rfl⟩:=f;cases v:L[j]? with
  |none=>simp[v]at s
  |some c=>
  simp only[v]at s;obtain⟨S,rfl⟩:=X4 s;obtain⟨b,I,sz,m,sp,z,G,y,hs,C,U,E,X⟩:=R.cO;obtain rfl:sp=none:=G.resolve_left (fun e0=>by grind);have F:j<L.length:=(Zg.1 v).1;have Q:i.size=sz:=by grind [Zl]
  refine Wb M (key _ _ _ _ _ _ z A.Vh F) (XH.p _ _ (.ref _ _ _ (fun q=>C j q) (fun q d D=>U j c q d v D) (fun q d D=> ?_) (fun q d D=>X j c q d v D)))
  grind
 ·rename_i id XW I l k j f;simp only[ZG,and_true]at f;obtain⟨rfl,rfl⟩:=f;obtain⟨b,g,q,m,z,N,hv,y,Y⟩:=R.Rv;simp only[N]at s;obtain⟨a,rfl⟩:=X4 s;rw[Zs]at a;obtain⟨B,a⟩:=a;have B:=Zl B;have a:j<l:=by grind [Nat.blt_eq]
  refine SF M (key _ _ _ _ _ _ z A.Vh a) (XH.ptr _ _ _ _ b _ _ N hv fun e=> ?_)
  grind
 ·simp at s
theorem Vp {a b}(h:Nat.ble a b=true):a<=b:=Nat.le_of_ble_eq_true h
theorem QG {a b}(h:Nat.blt a b=true):a<b:=by grind [Nat.blt_eq]
theorem vT (t e:TypeId)(m:Nat)(i:TypeInfo)(x A:Operand)(c:Operand->Value)(o:Oper)(I:o.op=.indexAddr t x A)(K:P.underlying t=some (.array m e))(G:P.info? e=some i)
  (C B:DV) (F:XF w O μ h (c x) C) (l:XF w O μ h (c A) B) (r:Vk) (s:RE m i.size [C,B]=some r) (D:X1 w O μ h):V5 O w μ h n ((execOp c o).run P w) r:=by
 have key:∀(g q j:Nat) (k:IntKind),c x=.pointer (some ⟨g,q,none⟩)->c A=.int k (Int.ofNat j)->j<m->(execOp c o).run P w=.ok (.value (.pointer (some ⟨g,q+j*i.size,none⟩))) w:=by
  intro g q j k f H z;simp only[execOp,I];refine Ur ?_;simp[Instr.indexAt,asIntOf,underlying,K,f,H,Go.sizeOf,typeInfo,G,Instr.sureAddr,Sem.run_bind,Result.andThen,go_sem,UX,z]
 unfold RE at s;split at s
 ·rename_i N k j a;simp only[ZG,and_true]at a;obtain⟨rfl,rfl⟩:=a;obtain⟨v,rfl⟩:=X4 s;rw[Zs]at v;obtain⟨b,M,f,u,R,Q,S⟩:=F.gY;refine Wb D (key _ _ _ _ f l.Vh (QG v.1)) (XH.p _ _ (.ref _ _ _ (fun q=>u (j*i.size+q)) (fun q d E=> ?_) (fun q d E=> ?_) (fun q d E=> ?_)))
  ·grind
  ·grind
  grind
 ·rename_i id XW T q k j a;simp only[ZG,and_true]at a;obtain⟨rfl,rfl⟩:=a;obtain⟨v,rfl⟩:=X4 s;obtain⟨b,g,U,f,y,L,J⟩:=F.Ou;exact Wb D (key _ _ _ _ f l.Vh (QG v)) (XH.ptr _ _ _ _ b _ _ y L fun e=>by omega)
 ·simp at s
theorem nK (t:TypeId)(i:TypeInfo)(b:Bool)(k:fE P t=some b)(p:P.info? t=some i)(xs:List Value)(e:Y')(g:XE (XH w O μ h) xs e)(a:Nat)(v:DV)(d:Sr b i.size (e.drop a)=some v):
  ∃u,(part t xs.toArray a).run P w=.ok u w/\XF w O μ h u v:=by
 have m:(isAgg t).run P w=.ok b w:=by
  unfold fE at k;unfold isAgg;split at k<;>simp only[Zb,reduceCtorEq]at k<;>subst k<;>rename_i l
  ·simp[underlying,l]
  ·simp[underlying,l]
  simp_all [underlying]
 unfold Sr at d;cases b with
 |true=>
  simp only[cond_true]at d;obtain⟨f,rfl⟩:=X4 d;have f:=Vp f;refine⟨.agg ((xs.drop a).take i.size).toArray,?_,⟨_,rfl,(g.drop a).take i.size⟩⟩
  simp_all [Go.sizeOf,typeInfo,part]
 |false=>
  simp only[cond_false]at d;cases n:e.drop a with
  |nil=>simp[n]at d
  |cons c rest=>
  simp only[n,Zb]at d;subst d;have h0:e[a]? =some c:=by
   have:=List.getElem?_drop (xs:=e) (i:=a) (j:=0)
   grind
  obtain⟨u,l,o⟩:=g.get a c h0;refine⟨u,?_,o⟩
  simp_all [part]
end
section
variable {P:Program}{O:BS}{w:World}{μ:Nat->Nat}{h:HF}{n:Nat}
theorem As (t e:TypeId)(i:TypeInfo)(p:Option Addr)(d a)(q:P.underlying t=some (.slice e))(o:P.info? e=some i)(j b:Option Value)(l u)
  (g:(j=none/\l=0)\/∃k,j=some (.int k (Int.ofNat l))) (f:(b=none/\u=d)\/∃k,b=some (.int k (Int.ofNat u))) (m:l<=u) (n:u<=a):
  (Instr.sliceAt t (.slice p d a) j b none).run P w=.ok (.slice (if a=l then p else p.map (·.add (l*i.size))) (u-l) (a-l)) w:=by
 have r:∀c,(Instr.sliceBound (.int .i64 (Int.ofNat l)) u c).run P w=.ok l w:=by simp_all [Instr.sliceBound,asIntOf]
 have h:(Go.sizeOf e).run P w=.ok i.size w:=by simp[Go.sizeOf,typeInfo,o]
 rcases g with⟨rfl,rfl⟩|⟨k,rfl⟩<;>rcases f with⟨rfl,rfl⟩|⟨s,rfl⟩<;>
  simp[Instr.sliceAt,Instr.slice,underlying,q,Instr.sliceBounds,Instr.sliceBound,asIntOf,h,Sem.run_bind,Result.andThen,m,n]
theorem XH.AZ {id XW c d l u}{v}(i:TypeInfo)(b)(f:h id=some b)(n:b.sz=i.size)(g q a)(k:XW<=b.XW)(o:l<=u)(p:u<=a)
  (r:XW=b.XW->g=μ id/\∃(C:Array Value) (T:TypeId),w.heap[μ id]? =some (.cells C T (0,0))/\((q=c*b.sz/\(c+a)*b.sz=C.size/\a<=maxLen)\/(d=0/\a=0/\0<c)))
  (m:v=.slice (if a=l then some ⟨g,q,none⟩else some ⟨g,q+l*i.size,none⟩) (u-l) (a-l)):XH w O μ h v (.own id XW (c+l) (u-l)):=by
 subst m;by_cases j:a=l
 ·rw[if_pos j];refine .own id XW (c+l) (u-l) b g q (a-l) f k (by omega) fun e=> ?_
  grind
 ·rw[if_neg j];refine .own id XW (c+l) (u-l) b g _ (a-l) f k (by omega) fun e=> ?_
  grind
theorem Ws.YY {L}(a)(e):Ws w L (.slice (some a) 0 e) (.Xl []):=
 .Xl a.block a.off 0 e [] (fun _ _=>.bool true) (fun i c j d b=>by simp at b) (by simp) (fun i c b=>by simp at b) (fun i c j d b=>by simp at b) (fun i c j d b=>by simp at b) (.inl rfl)
theorem Ws.Bj {L:BS}{f:Z'}{v:Value}(i:TypeInfo){b m t a l u:Nat}(A:f.length<=a)(F:∀(i:Nat) (c:N'),f[i]? =some c->c.length=t)(n:Nat->Nat->Value)
  (D:∀(i:Nat) (c:N') (j:Nat) (d:PL),f[i]? =some c->c[j]? =some d->¬L b)
  (J:∀(i:Nat) (c:N') (j:Nat) (d:PL),f[i]? =some c->c[j]? =some d->w.cell? ⟨b,m+i*t+j,none⟩=some (n i j))
  (E:∀(i:Nat) (c:N') (j:Nat) (d:PL),f[i]? =some c->c[j]? =some d->Ws w L (n i j) d) (H:l<=u) (I:u<=f.length) (z:(∃c,f[l]? =some c)->l≠a->t=i.size)
  (B:v=.slice (if a=l then some ⟨b,m,none⟩else some ⟨b,m+l*i.size,none⟩) (u-l) (a-l)):Ws w L v (.Xl ((f.take u).drop l)):=by
 have h:((f.take u).drop l).length=u-l:=by simp;omega
 have g:∀(k:Nat) (c:N'),((f.take u).drop l)[k]? =some c->f[l+k]? =some c/\l+k<u:=by
  grind
 subst B;by_cases o:a=l
 ·rw[if_pos o];have s:u-l=0:=by omega
  have r:(f.take u).drop l=[]:=YC (by rw[h,s]);rw[r,s];exact .Xl b m t (a-l) [] (fun _ _=>.bool true) (fun i c j d p=>by simp at p) (by simp) (fun i c p=>by simp at p) (fun i c j d p=>by simp at p) (fun i c j d p=>by simp at p) (.inr rfl)
 ·rw[if_neg o,<-h];refine .Xl b (m+l*i.size) t (a-l) _ (fun k j=>n (l+k) j) (fun k c j d q x=>D _ _ _ _ (g k c q).1 x) (by rw[h];omega) (fun k c q=>F _ _ (g k c q).1) (fun k c j d q x=> ?_) (fun k c j d q x=>E _ _ _ _ (g k c q).1 x) (.inr rfl);have C:=(g k c q).1;have y:l<f.length:=by grind
  have G:=z ⟨f[l],by simp[y]⟩ (fun e=>o e.symm)
  grind
theorem Ak (t e:TypeId)(i:TypeInfo)(x:Operand)(J s:Option Operand)(H:Operand->Value)(o:Oper)(ho:o.op=.slice t x J s none)(ht:P.underlying t=some (.slice e))(hi:P.info? e=some i)
  (W:DV) (Z:X') (hx:XF w O μ h (H x) W) (D:XE (fun y d=>XF w O μ h (H y) d) (J.toList++s.toList) Z) (r:Vk) (I:QO i.size J.isSome s.isSome h (W::Z)=some r) (L:X1 w O μ h):
  V5 O w μ h n ((execOp H o).run P w) r:=by
 unfold QO at I;cases a:Ub J.isSome s.isSome (W::Z)with
 |none=>simp[a]at I
 |some q=>
 obtain⟨y,l,u⟩:=q;simp only[a]at I;have args:W=.one y/\(∃Y:Option Value,J.map H=Y/\((Y=none/\l=0)\/∃k,Y=some (.int k (Int.ofNat l))))/\
   (∃S:Option Value,s.map H=S/\((S=none/\u=none)\/∃k u',S=some (.int k (Int.ofNat u'))/\u=some u')):=by
  cases J with
  |none=>
   cases s with
   |none=>
    cases D;simp only[Ub,Option.isSome_none]at a
    grind
   |some hh=>
    cases D with
    |cons v U=>
     cases U;unfold Ub at a;split at a<;>simp_all;obtain⟨rfl,rfl,rfl⟩:=a;exact⟨_,_,v.Vh,rfl⟩
  |some ll=>
   cases s with
   |none=>
    cases D with
    |cons v U=>
     cases U;unfold Ub at a;split at a<;>simp_all;obtain⟨rfl,rfl,rfl⟩:=a;exact⟨_,v.Vh⟩
   |some hh=>
    cases D with
    |cons v U=>cases U with
     |cons z t2=>
      cases t2;unfold Ub at a;split at a<;>simp_all;obtain⟨rfl,rfl,rfl⟩:=a;exact⟨⟨_,v.Vh⟩,_,_,z.Vh,rfl⟩
 obtain⟨rfl,⟨Y,a5,a4⟩,a7,a3,a2⟩:=args;have key:∀(p:Option Addr) (B j:Nat),H x=.slice p B j->l<=u.getD B->u.getD B<=j->
   (execOp H o).run P w=.ok (.value (.slice (if j=l then p else p.map (·.add (l*i.size))) (u.getD B-l) (j-l))) w:=by
  grind [execOp,Ur,As]
 cases f:WN i.size h y l u with
 |none=>simp[f]at I
 |some q=>
 obtain⟨d,rd⟩:=q;simp only[f,Zb]at I;subst I;unfold WN at f;split at f
 ·
  rename_i es;obtain⟨A,m⟩:=X4 f;simp only[Zq]at m;obtain⟨rfl,rfl⟩:=m;simp only[Zs]at A;obtain⟨b,a1,sz,j,sp,X,a0,E,hs,V,hl,G,hp⟩:=hx.cO;have v:=Vp A.1.1;have z:=Vp A.1.2;rcases a0 with rfl|rfl
  ·refine SF L (key _ _ _ X v (by omega)) (XH.p _ _ ?_)
   grind [Ws.YY]
  refine SF L (key _ _ _ X v (by omega)) (XH.p _ _ (Ws.Bj i E hs V hl G hp v z (fun⟨c,N⟩ _=> ?_) ?_))
  ·have:=A.2;rw[N]at this;rw[<-hs l c N];exact Zl this
  grind [UX]
 ·
  obtain⟨A,m⟩:=X4 f;simp only[Zq]at m;obtain⟨rfl,rfl⟩:=m;simp only[Zs]at A;have v:=Zl A.1;have z:=Zl A.2;subst v;refine SF L ((key _ _ _ hx.cM (by omega) (by omega)).trans ?_) (XH.p _ _ .Xp);simp[z]
 ·
  rename_i id XW a1 B;obtain⟨b,g,q,j,X,F,S,E,R⟩:=hx.Rv;simp only[F]at f;obtain⟨A,m⟩:=X4 f;simp only[Zq]at m;obtain⟨rfl,rfl⟩:=m;simp only[Zs]at A;have v:=Vp A.1.1;have h3:=Zl A.2;have z:u.getD B<=j:=by
   rcases Bool.or_eq_true_iff.1 A.1.2 with z|z
   ·have:=Vp z;omega
   ·simp only[Zs,Yq]at z;obtain⟨⟨⟨⟨e1,e2⟩,e3⟩,e4⟩,e5⟩:=z;have e1:=Zl e1;have e3:=Zl e3;have e4:=QG e4;have e5:=Vp e5;obtain⟨_,C,T,hC,hd⟩:=R e1.symm;have M:=L.RV id b F;simp only[Wx,e2,ZC,if_false]at M;obtain⟨C',K,Q,_⟩:=M;rw[hC]at K;cases K;rcases hd with⟨_,hz,_⟩|⟨_,_,a6⟩
    ·rw[e3,Yb]at hz;rw[<-hz]at Q;have:=Nat.le_of_mul_le_mul_right Q (by omega:0<b.sz);omega
    ·omega
  refine SF L (key _ _ _ X v z) (XH.AZ i b F h3 g q j S v z R ?_)
  grind [UX]
 ·simp at f
theorem vO (t e:TypeId)(i:TypeInfo)(x C f D:Operand)(j:Operand->Value)(o:Oper)(L:o.op=.slice t x (some C) (some f) (some D))(M:P.underlying t=some (.slice e))(K:P.info? e=some i)
  (A u y z:DV) (N:XF w O μ h (j x) A) (F:XF w O μ h (j C) u) (G:XF w O μ h (j f) y) (H:XF w O μ h (j D) z) (r:Vk) (l:Py [A,u,y,z]=some r) (I:X1 w O μ h):
  V5 O w μ h n ((execOp j o).run P w) r:=by
 unfold Py at l;split at l
 ·rename_i id XW R Q U a V b W c d;simp only[ZG,and_true]at d;obtain⟨rfl,rfl,rfl,rfl⟩:=d
  ·obtain⟨k,rfl⟩:=X4 l;simp only[Zs]at k;have e1:=Vp k.1.1;have e2:=Vp k.1.2;have T:=Vp k.2;obtain⟨S,g,q,m,J,_,_,B,_⟩:=N.Rv;have s:(Go.sizeOf e).run P w=.ok i.size w:=by simp[Go.sizeOf,typeInfo,K]
   have E:c<=m:=by omega
   refine Wb (v:=.slice (if c=a then some ⟨g,q,none⟩else(some (⟨g,q,none⟩:Addr)).map (·.add (a*i.size))) (b-a) (c-a)) I ?_ (XH.p _ _ (.Qx _ rfl));simp only[execOp,L];refine Ur ?_;rw[J];simp[F.Vh,G.Vh,H.Vh,Instr.sliceAt,Instr.slice,underlying,M,Instr.sliceBounds,Instr.sliceBound,asIntOf,s,Sem.run_bind,Result.andThen,e1,e2,E]
 ·simp at l
theorem CZ (t:TypeId)(m)(e:TypeId)(x:Operand)(d:Operand->Value)(o)(b:Array TypeId)(g:o.op=.call ⟨.builtin .len,#[x],b⟩)(i:b[0]? =some t)(j:P.underlying t=some (.array m e))(c)(r)
  (a:bc m [c]=some r) (f:X1 w O μ h):V5 O w μ h n ((execOp d o).run P w) r:=by
 simp only[bc,Zb]at a;subst a
 simp_all [Wb,XF.int,execOp,resolve,invoke,builtin,Builtin.len_,underlying,goInt]
theorem Wq {a:Type}{b}{x:Option a}{y}(h:(bif b then x else none)=some y):b=true/\x=some y:=by
 cases b<;>simp_all
theorem Al (s:TypeId)(m:Array Field)(f)(c:Field)(i:TypeInfo)(a)(x:Operand)(p:Operand->Value)(o)(C:o.op=.field s x f)(D:P.underlying s=some (.struct m))(B:m[f]? =some c)
  (q:fE P c.type=some a) (t:P.info? c.type=some i) (l) (y:XF w O μ h (p x) l) (r) (b:Og a i.size c.offset [l]=some r) (A:X1 w O μ h):V5 O w μ h n ((execOp p o).run P w) r:=by
 unfold Og at b;split at b
 ·rename_i k d;simp only[ZG,and_true]at d;subst d;obtain⟨_,b⟩:=Wq b;cases g:Sr a i.size (k.drop c.offset)with
  |none=>simp[g]at b
  |some v=>
  simp only[g,Zb]at b;subst b;obtain⟨z,e,j⟩:=y;obtain⟨u,E,b⟩:=nK (P:=P) c.type i a q t z k j c.offset v g
  simp_all [Wb,execOp,Instr.field,underlying,asAgg]
 ·simp at b
theorem vR (t e:TypeId)(m)(i:TypeInfo)(b)(x C:Operand)(q:Operand->Value)(o)(G:o.op=.index t x C)(H:P.underlying t=some (.array m e))(F:fE P e=some b)(B:P.info? e=some i)
  (z y) (J:XF w O μ h (q x) z) (d:XF w O μ h (q C) y) (r) (a:SL m b i.size [z,y]=some r) (E:X1 w O μ h):V5 O w μ h n ((execOp q o).run P w) r:=by
 unfold SL at a;split at a
 ·rename_i s k j c;simp only[ZG,and_true]at c;obtain⟨rfl,rfl⟩:=c;obtain⟨A,a⟩:=Wq a;rw[Zs]at A;have f:=QG A.1;cases l:Sr b i.size (s.drop (j*i.size))with
  |none=>simp[l]at a
  |some v=>
  simp only[l,Zb]at a;subst a;obtain⟨K,D,p⟩:=J;obtain⟨u,I,a⟩:=nK (P:=P) e i b F B K s p (j*i.size) v l;have g:(Go.sizeOf e).run P w=.ok i.size w:=by simp[Go.sizeOf,typeInfo,B]
  refine Wb E ?_ a;simp only[execOp,G];exact Ur (by simp[Instr.index,underlying,H,D,d.Vh,asIntOf,Sem.run_bind,Result.andThen,f,g,I])
 ·simp at a
theorem pB (t:TypeId)(x p:Operand)(i:Operand->Value)(o)(z:o.op=.index t x p)(B:P.underlying t=some .string)
  (m l) (C:XF w O μ h (i x) m) (g:XF w O μ h (i p) l) (r) (a:Uo [m,l]=some r) (y:X1 w O μ h):V5 O w μ h n ((execOp i o).run P w) r:=by
 unfold Uo at a;split at a
 ·rename_i q k j e;simp only[ZG,and_true]at e;obtain⟨rfl,rfl⟩:=e;cases d:q[j]? with
  |none=>simp[d]at a
  |some b=>
  simp only[d,Zb]at a;subst a;obtain⟨s,u,rfl⟩:=C.Hn;rw[ZR]at d;cases f:s.data.toList[j]? with
  |none=>simp[f]at d
  |some c=>
  simp only[f,Ym,Zb]at d;subst d;refine Wb (v:=.int .u8 c.toNat) y ?_ (XF.int _ _);simp only[execOp,z];have A:s[j]? =some c:=by
   rw[Array.getElem?_toList]at f;exact f
  exact Ur (by simp[Instr.index,underlying,B,u,g.Vh,asIntOf,Sem.run_bind,Result.andThen,A])
 ·simp at a
end
section
variable {P:Program}{O:BS}{w:World}{μ:Nat->Nat}{h:HF}{n:Nat}
theorem nV {v:Value}{l:DL}{b:Bool}(d:XF w O μ h v (.one l))(a:l.isNil=some b):∃p f c,v=.slice p f c/\p.isNone=b:=by
 unfold DL.isNil at a;split at a<;>simp only[Zb,reduceCtorEq]at a<;>subst a
 ·exact⟨_,_,_,d.cM,rfl⟩
 ·obtain⟨g,q,_,_,_,e,_⟩:=d.cO;grind
 ·obtain⟨_,g,q,_,e,_⟩:=d.Rv;grind
theorem gD (j)(t e:TypeId)(p q:Option Addr)(a b c d)(x y)(i:P.underlying t=some (.slice e))(f:p.isNone=x)(h:q.isNone=y)(g:x=true\/y=true):
  (Op.equalIn (j+1) t (.slice p a b) (.slice q c d)).run P w=.ok (x&&y) w:=by
 cases p with
 |none=>
  simp at f;subst f;simp[Op.equalIn,underlying,i,h]
 |some p=>
  simp at f;subst f;have k:y=true:=by simpa using g
  subst k;cases q with
  |some q=>simp at h
  |none=>simp[Op.equalIn,underlying,i]
theorem mr (t e:TypeId)(p q:Option Addr)(a b c d)(x y)(i:P.underlying t=some (.slice e))(g:p.isNone=x)(h:q.isNone=y)(f:x=true\/y=true):
  (Op.equal t (.slice p a b) (.slice q c d)).run P w=.ok (x&&y) w:=gD 9999 t e p q a b c d x y i g h f
theorem ja (c)(t u e:TypeId)(x y:Operand)(j:Operand->Value)(o)(C:o.op=.binOp (if c then .neq else .eql) t x y u)(F:P.underlying t=some (.slice e))
  (k l) (G:XF w O μ h (j x) k) (H:XF w O μ h (j y) l) (r) (f:Uz c [k,l]=some r) (s:X1 w O μ h):
  V5 O w μ h n ((execOp j o).run P w) r:=by
 cases k with
 |agg _=>simp[Uz]at f
 |Wd _=>simp[Uz]at f
 |one v=>
 cases l with
 |agg _=>simp[Uz]at f
 |Wd _=>simp[Uz]at f
 |one z=>
 simp only[Uz]at f;cases d:wE c v z with
 |none=>simp[d]at f
 |some K=>
 simp only[d,Zb]at f;subst f;have key:∀(a b:Bool),v.isNil=some a->z.isNil=some b->(a=true\/b=true)->(execOp j o).run P w=.ok (.value (.bool ((a&&b)!=c))) w:=by
  intro a b g i m;obtain⟨p,I,A,e1,D⟩:=nV G g;obtain⟨q,J,B,e2,E⟩:=nV H i;simp only[execOp,C];refine Ur ?_;rw[Sem.run_bind,e1,e2,bV];have hE:=mr (w:=w) t e p q I A J B a b F D E m;cases c
  ·simp_all [binOp]
  simp_all [binOp]
 unfold wE at d;split at d
 ·rename_i b g i;simp only[Zb]at d;subst d;refine Wb s (key _ _ g i (.inl rfl)) ?_;simpa using XF.bool _
 ·rename_i g i;simp only[Zb]at d;subst d;refine Wb s (key _ _ g i (.inr rfl)) ?_
  grind [XF.bool]
 ·simp at d
theorem Nq {k}:∀{f e} {b},Wl k f e=some b->∀{m j},XE (XH w O μ h) m f->XE (XH w O μ h) j e->
  ∃as g:U',m=as.map (Value.int k)/\j=g.map (Value.int k)/\as.length=g.length/\b=(as==g):=by
 intro f;induction f with
 |nil=>
  intro e b d m j t o;cases e with
  |nil=>simp[Wl]at d;subst d;cases t;cases o;simp_all
  |cons y e=>simp[Wl]at d
 |cons x f D=>
  intro e b d m j t o;cases x with
  |own _ _ _ _=>simp[Wl]at d
  |ptr _ _ _ _=>simp[Wl]at d
  |fn _ _=>simp[Wl]at d
  |mp _=>simp[Wl]at d
  |p l=>
  cases l with
  |bool _=>simp[Wl]at d
  |Xp=>simp[Wl]at d
  |Xl _=>simp[Wl]at d
  |ref _=>simp[Wl]at d
  |fn _ _=>simp[Wl]at d
  |str _=>simp[Wl]at d
  |Qx=>simp[Wl]at d
  |int E a=>
  cases e with
  |nil=>simp[Wl]at d
  |cons y e=>
  cases y with
  |own _ _ _ _=>simp[Wl]at d
  |ptr _ _ _ _=>simp[Wl]at d
  |fn _ _=>simp[Wl]at d
  |mp _=>simp[Wl]at d
  |p l=>
  cases l with
  |bool _=>simp[Wl]at d
  |Xp=>simp[Wl]at d
  |Xl _=>simp[Wl]at d
  |ref _=>simp[Wl]at d
  |fn _ _=>simp[Wl]at d
  |str _=>simp[Wl]at d
  |Qx=>simp[Wl]at d
  |int F c=>
  simp only[Wl]at d;obtain⟨B,i⟩:=Wq d;clear d;rw[Zs,V0,V0]at B;obtain⟨z,A⟩:=B;have z:=z.symm;subst z;have A:=A.symm;subst A;cases n:Wl k f e with
  |none=>simp[n]at i
  |some r=>
  simp only[n,Zb]at i;cases t with
  |cons u v=>cases o with
   |cons q s=>
    obtain⟨as,g,rfl,rfl,C,rfl⟩:=D n v s;have e1:=XF.Vh (u:XF w O μ h _ (.one _));have e2:=XF.Vh (q:XF w O μ h _ (.one _));refine⟨a::as,c::g,by rw[e1];rfl,by rw[e2];rfl,by simp[C],?_⟩
    grind [kT]
theorem yp (c:Bool)(B:Array Operand)(z:Operand->Value)(o:Oper)(N:Array TypeId)(Q:o.op=.call ⟨.builtin (if c then .min else .max),B,N⟩)
  (j:X') (t:XE (fun y d=>XF w O μ h (z y) d) B.toList j) (r:Vk) (m:Qt (if c then(fun a b=>S6 b a)else S6) j=some r) (L:X1 w O μ h):V5 O w μ h n ((execOp z o).run P w) r:=by
 have s:∀(i:List Value) (j:X') (k:IntKind) (a:Int) (d:DV),XE (XF w O μ h) i j->maxD (if c then(fun a b=>S6 b a)else S6) k a j=some d->
   ∃v,(List.foldlM (if c then Builtin.min2 else Builtin.max2) (Value.int k a) i).run P w=.ok v w/\XF w O μ h v d:=by
  intro i j;induction j generalizing i with
  |nil=>
   intro k a d I f;cases I;simp only[maxD,Zb]at f;subst f
   simp_all [XF.int]
  |cons y T K=>
   intro k a d I f;cases y with
   |agg _=>simp[maxD]at f
   |Wd _=>simp[maxD]at f
   |one l=>
   cases l with
   |own _ _ _ _=>simp[maxD]at f
   |ptr _ _ _ _=>simp[maxD]at f
   |fn _ _=>simp[maxD]at f
   |mp _=>simp[maxD]at f
   |p l=>
   cases l with
   |bool _=>simp[maxD]at f
   |Xp=>simp[maxD]at f
   |Xl _=>simp[maxD]at f
   |ref _=>simp[maxD]at f
   |fn _ _=>simp[maxD]at f
   |str _=>simp[maxD]at f
   |Qx=>simp[maxD]at f
   |int R b=>
   simp only[maxD]at f;obtain⟨H,G⟩:=Wq f;clear f;have H:=(V0 _ _).1 H;subst H;cases I with
   |cons C D=>
    obtain⟨v,u,g⟩:=K _ k _ d D G;refine⟨v,?_,g⟩;have e:=C.Vh;rw[List.foldlM_cons,Sem.run_bind,e];have step:((if c then Builtin.min2 else Builtin.max2) (Value.int k a) (Value.int k b)).run P w=.ok (.int k (bif(if c then(fun a b=>S6 b a)else S6) a b then b else a)) w:=by
     cases c<;>simp[Builtin.min2,Builtin.max2,qk,Bool.cond_decide]
    simp_all
 unfold Qt at m;split at m
 ·rename_i k a i;generalize J:B.toList=xl at t;cases t with
  |cons C D=>
   rename_i S x;cases A:maxD (if c then(fun a b=>S6 b a)else S6) k a i with
   |none=>simp[A]at m
   |some d=>
   simp only[A,Zb]at m;subst m;have E:XE (XF w O μ h) (x.map z) i:=by
    clear A J;induction D with
    |nil=>exact .nil
    |cons q _ K=>exact .cons q K
   obtain⟨v,u,g⟩:=s _ i k a d E A;refine Wb L ?_ g;have M:=C.Vh;have F:(B.map z).toList=Value.int k a::x.map z:=by grind [Array.toList_map]
   cases c
   ·simp_all [execOp,resolve,invoke,builtin,Builtin.max_]
   simp_all [execOp,resolve,invoke,builtin,Builtin.min_]
 ·simp at m
theorem bR (f)(a:Array Operand)(e:Operand->Value)(o)(k:(Nat.blt f bF=true/\o.op=.makeFunc (.func f) #[] a)\/(Nat.blt f bF=false/\o.op=.makeFunc (.func (f-bF)) a #[]))
  (c) (p:XE (fun y d=>XF w O μ h (e y) d) a.toList c) (r) (j:Tk f c=some r) (z:X1 w O μ h):V5 O w μ h n ((execOp e o).run P w) r:=by
 unfold Tk at j;cases q:Xw wA c with
 |none=>simp[q]at j
 |some g=>
 simp only[q,Zb]at j;subst j;have key:∀(m:List Operand) (c:X') (g:Y'),XE (fun y d=>XF w O μ h (e y) d) m c->Xw wA c=some g->XE (XH w O μ h) (m.map e) g:=by
  intro m c g C;induction C generalizing g with
  |nil=>intro b;simp[Xw]at b;subst b;exact .nil
  |@cons y d m c x _ E=>
   intro b;simp only[Xw]at b;cases d with
   |agg _=>simp[wA]at b
   |Wd _=>simp[wA]at b
   |one l=>
    simp only[wA]at b;cases s:Xw wA c with
    |none=>simp[s]at b
    |some H=>
     simp only[s,Zb]at b;subst b;exact .cons x (E _ s)
 have t:=key _ _ _ p q;have B:(a.map e)=(a.toList.map e).toArray:=by apply Array.ext';simp
 refine Wb (v:=BI f (a.toList.map e)) z ?_ ?_
 ·rcases k with⟨u,k⟩|⟨u,k⟩
  ·simp only[execOp,k,BI,u,cond_true,<-B]
   simp_all [Instr.makeFunc]
  simp_all [execOp,BI,Instr.makeFunc]
 ·exact XH.fn f g _ t.length fun i d v A F=>by
   obtain⟨G,D,j⟩:=t.get i d A
   grind
end
section
variable {P:Program}{O:BS}{w:World}{μ:Nat->Nat}{h:HF}{n:Nat}
theorem Oa (e:TypeId)(k:IntKind)(c:P.underlying e=some (.int k))(as:U')(j:Nat)(a:Int)(b:as[j]? =some a):
  (part e (as.map (Value.int k)).toArray j).run P w=.ok (.int k a) w:=by simp_all [isAgg,underlying,part]
theorem Ps (d:Nat)(e:TypeId)(k:IntKind)(b:P.underlying e=some (.int k))(as a:U')(h:as.length=a.length):∀(m s:Nat),s+m=as.length->
  (Op.eqItems (d+1) e 1 (as.map (Value.int k)).toArray (a.map (Value.int k)).toArray (List.range' s m)).run P w=.ok (as.drop s==a.drop s) w:=by
 intro m;induction m with
 |zero=>
  simp_all [Op.eqItems]
 |succ m j=>
  intro s i;have c:s<as.length:=by omega
  have f:s<a.length:=by omega
  rw[List.range'_succ];simp only[Op.eqItems,Z6,Sem.run_bind,Oa e k b as s _ (Zd c),Oa e k b a s _ (Zd f),Result.andThen_ok];have g:(Op.equalIn (d+1) e (.int k as[s]) (.int k a[s])).run P w=.ok (as[s]==a[s]) w:=by
   simp[Op.equalIn,underlying,b]
  rw[g];simp only[Result.andThen_ok];rw[Z0 c,Z0 f];rw[show((as[s]::as.drop (s+1))==(a[s]::a.drop (s+1)))=((as[s]==a[s])&&(as.drop (s+1)==a.drop (s+1)))from rfl];cases(as[s]==a[s])
  ·grind [Sem.run_pure]
  grind
theorem run_eqGuard_agg (a:BinOp)(t:TypeId)(x y:Operand)(b c)(d:P.eqGuardType P.depth t=false):(eqGuard a t x y (.agg b) (.agg c)).run P w=.ok () w:=by simp_all [eqGuard]
theorem jb (a:Bool)(t u e:TypeId)(k:IntKind)(m:Nat)(i:TypeInfo)(x y:Operand)(q:Operand->Value)(o:Oper)(H:o.op=.binOp (if a then .neq else .eql) t x y u)(I:P.underlying t=some (.array m e))
  (N:P.underlying e=some (.int k)) (G:P.info? e=some i) (R:i.size=1) (F:P.eqGuardType P.depth t=false)
  (s z:DV) (J:XF w O μ h (q x) s) (K:XF w O μ h (q y) z) (r:Vk) (d:US a k m [s,z]=some r) (C:X1 w O μ h):
  V5 O w μ h n ((execOp q o).run P w) r:=by
 unfold US at d;split at d
 ·rename_i L M f;simp only[ZG,and_true]at f;obtain⟨rfl,rfl⟩:=f;obtain⟨c,d⟩:=Wq d;have c:=Zl c;cases l:Wl k L M with
  |none=>simp[l]at d
  |some b=>
  simp only[l,Zb]at d;subst d;obtain⟨T,A,g⟩:=J;obtain⟨S,B,p⟩:=K;obtain⟨as,j,rfl,rfl,Q,rfl⟩:=Nq l g p;have D:as.length=m:=by have:=g.length;simp at this;omega
  have E:P.cellsOf e=1:=by grind [Program.cellsOf]
  have hE:(Op.equal t (.agg (as.map (Value.int k)).toArray) (.agg (j.map (Value.int k)).toArray)).run P w=.ok (as==j) w:=by
   show(Op.equalIn (9999+1) t _ _).run P w=_;rw[run_equalIn_array w 9999 _ _ I G,E,List.range_eq_range']
   grind [Ps]
  refine Wb (v:=.bool ((as==j)!=a)) C ?_ (XF.bool _);simp only[execOp,H];refine Ur ?_;rw[Sem.run_bind,A,B,run_eqGuard_agg _ _ _ _ _ _ F];cases a
  ·simp_all [binOp]
  simp_all [binOp]
 ·simp at d
theorem jX {v}{l}(a:mF v=some l)(L):Ws w L v l:=by
 unfold mF at a;split at a<;>simp only[Zb,reduceCtorEq]at a<;>subst a
 ·exact .bool _
 ·exact .int _ _
 ·exact .Xp
 ·exact .str _
 ·exact .Qx _ rfl
 ·exact .Qx _ rfl
 ·exact .Qx _ rfl
theorem Pz {e g:Type}{f}{R:e->g->Prop}(h:∀x y,f x=some y->R x y):∀{b} {c},Xw f b=some c->XE R b c
 |[],c,hm=>by simp[Xw]at hm;subst hm;exact .nil
 |x::b,c,hm=>by
  simp only[Xw]at hm;cases d:f x with
  |none=>simp[d]at hm
  |some y=>
   simp only[d]at hm;cases a:Xw f b with
   |none=>simp[a]at hm
   |some i=>
    simp only[a,Zb]at hm;subst hm;exact .cons (h _ _ d) (Pz h a)
theorem Td {t:TypeId}{z}(b:zeroOf P t=some z):∃i c,P.info? t=some i/\i.zero=some c/\z.length=i.size/\c.cells.size=i.size/\(∀h:World,(zeroValue t).run P h=.ok c h)/\
  ∀h m j n,XE (XH h m j n) c.cells.toList (z.map .p):=by
 unfold zeroOf at b;cases o:P.info? t with
 |none=>simp[o]at b
 |some i=>
 simp only[o]at b;cases g:i.zero with
 |none=>simp[g]at b
 |some c=>
 simp only[g]at b;cases k:Xw mF c.cells.toList with
 |none=>simp[k]at b
 |some q=>
 simp only[k]at b;split at b<;>simp only[Zb,reduceCtorEq]at b;subst b;rename_i a;have d:q.length=i.size:=by simpa using a
 clear a;have f:XE (fun v l=>mF v=some l) c.cells.toList q:=Pz (fun _ _ e=>e) k;refine⟨i,c,rfl,g,d,by have:=f.length;simp at this;omega,fun h=>by simp_all [zeroValue,typeInfo],fun h m j n=> ?_⟩;clear k d;generalize c.cells.toList=vs at f;induction f with
 |nil=>exact .nil
 |cons r _ s=>exact .cons (.p _ _ (jX r _)) s
theorem ob:∀(c:List Value) (b:Array Value) (a s:Nat),a+s+c.length<=b.size->
  ((c.zipIdx s).foldl (fun(b:Array Value) (x:Value×Nat)=>b.setIfInBounds (a+x.2) x.1) b).toList=b.toList.take (a+s)++c++b.toList.drop (a+s+c.length)
 |[],b,a,s,_=>by simp
 |v::c,b,a,s,hle=>by
  simp only[Zj]at hle;rw[List.zipIdx_cons,List.foldl_cons,ob c _ a (s+1) (by simp;omega)]
  grind [List.take_succ_eq_append_getElem,List.take_set_of_le,List.drop_set_of_lt]
theorem fc (j:Nat->Option (Nat×Nat)):∀(c:List (Nat×Value)) (a:List (Nat×Nat)) (o:X') (b:Array Value) (k g:Y'),
  XE (fun p q=>j p.1=some q) c a->XE (fun p d=>XF w O μ h p.2 d) c o->XE (XH w O μ h) b.toList k->OF k a o=some g->
  ∃e,Instr.fill j b c=some e/\XE (XH w O μ h) e.toList g:=by
 intro c;induction c with
 |nil=>
  intro a o b k g r y z n;cases r;grind [OF,Instr.fill]
 |cons p c K=>
  intro a o b k g r y z n;obtain⟨M,v⟩:=p;cases r with
  |@cons _ q _ a F r=>
  cases y with
  |@cons _ d _ o E y=>
  obtain⟨f,H⟩:=q;simp only at F E;simp only[OF]at n;cases m:d.cells with
  |none=>simp[m]at n
  |some I=>
  simp only[m]at n;obtain⟨A,n⟩:=Wq n;rw[Zs]at A;have D:=Zl A.1;have J:=Vp A.2;have G:=E.cells m;have u:=G.length;have B:=z.length;simp only[Array.length_toList]at u B;have i:=ob v.cells.toList b f 0 (by simp;omega);simp only[ZU,Array.length_toList]at i;have t:XE (XH w O μ h) ((v.cells.toList.zipIdx 0).foldl (fun(k:Array Value) (x:Value×Nat)=>k.setIfInBounds (f+x.2) x.1) b).toList (k.take f++I++k.drop (f+H)):=by
   rw[i,<-D,<-u];exact((z.take f).append G).append (z.drop _)
  obtain⟨e,C,s⟩:=K a o _ _ g r y t n;refine⟨e,?_,s⟩;have l:(decide (v.cells.size≠H)||decide (f+v.cells.size>b.size))=false:=by simp;omega
  rw[Instr.fill,F];simp only[l,ZC,if_false];have L:v.cells.zipIdx=(v.cells.toList.zipIdx 0).toArray:=by apply Array.ext';simp
  grind
theorem nk (t:TypeId)(z)(c)(a:Array (Nat×Operand))(J:Operand->Value)(o)(Z:o.op=.build t a)(hz:zeroOf P t=some z)
  (U:(∃L B,P.underlying t=some (.struct L)/\Xw (fun f:Field=>match Wv P f.type with |some s=>some (f.offset,s)|none=>none) L.toList=some B/\Xw (fun x:Nat×Operand=>B[x.1]?) a.toList=some c)\/
   (∃m e s,P.underlying t=some (.array m e)/\Wv P e=some s/\c=a.toList.map fun x=>(x.1*s,s)))
  (K) (C:XE (fun y d=>XF w O μ h (J y.2) d) a.toList K) (r) (M:Oi z c K=some r) (Q:X1 w O μ h):V5 O w μ h n ((execOp J o).run P w) r:=by
 unfold Oi at M;cases F:OF (z.map .p) c K with
 |none=>simp[F]at M
 |some cs=>
 simp only[F,Zb]at M;subst M;obtain⟨i,W,hi,a4,a1,a3,a2,u⟩:=Td hz;have k:XE (fun(p:Nat×Value) d=>XF w O μ h p.2 d) (a.map fun(x:Nat×Operand)=>(x.1,J x.2)).toList K:=by
  rw[Array.toList_map];generalize a.toList=B at C;clear U F;induction C with
  |nil=>exact .nil
  |cons q _ H=>exact .cons q H
 simp only[execOp,Z];rcases U with⟨L,B,ht,a0,I⟩|⟨m,e,s,ht,V,rfl⟩
 ·have g:XE (fun(p:Nat×Value) q=>(fun x=>B.toArray[x]?) p.1=some q) (a.map fun(x:Nat×Operand)=>(x.1,J x.2)).toList c:=by
   rw[Array.toList_map];have:=Pz (R:=fun(x:Nat×Operand) q=>B[x.1]? =some q) (fun _ _ e=>e) I;clear F I C k;generalize a.toList=pt at this;induction this with
   |nil=>exact .nil
   |cons q _ H=>exact .cons (by simpa using q) H
  obtain⟨b,E,j⟩:=fc (fun x=>B.toArray[x]?) _ _ _ W.cells _ _ g k (u _ _ _ _) F;have T:(Array.mapM (fun f:Field=>do pure (f.offset,<-Go.sizeOf f.type)) L:Sem (Array (Nat×Nat))).run P w=.ok B.toArray w:=by
   have Y:∀(l:List Field) (q:List (Nat×Nat)),Xw (fun f:Field=>match Wv P f.type with |some s=>some (f.offset,s)|none=>none) l=some q->(List.mapM (fun f:Field=>(do pure (f.offset,<-Go.sizeOf f.type):Sem (Nat×Nat))) l).run P w=.ok q w:=by
    intro l;induction l with
    |nil=>simp_all [Xw]
    |cons f l H=>
     intro q G;simp only[Xw]at G;cases A:Wv P f.type with
     |none=>simp[A]at G
     |some s=>
      simp only[A]at G;cases S:Xw (fun f:Field=>match Wv P f.type with |some s=>some (f.offset,s)|none=>none) l with
      |none=>simp[S]at G
      |some q'=>
       simp only[S,Zb]at G;subst G;have N:(Go.sizeOf f.type).run P w=.ok s w:=by
        unfold Wv at A;cases D:P.info? f.type with
        |none=>simp[D]at A
        |some X=>simp_all [Go.sizeOf,typeInfo]
       simp_all
   simp_all [Array.mapM_eq_mapM_toList]
  refine Wb (v:=.agg b) Q (Ur ?_) ⟨b.toList,by simp,j⟩
  simp_all [Instr.build,run_underlying]
 ·have g:XE (fun(p:Nat×Value) q=>(fun x=>some (x*s,s)) p.1=some q) (a.map fun(x:Nat×Operand)=>(x.1,J x.2)).toList (a.toList.map fun x=>(x.1*s,s)):=by
   rw[Array.toList_map];generalize a.toList=pt;induction pt with
   |nil=>exact .nil
   |cons q _ H=>exact .cons rfl H
  obtain⟨b,E,j⟩:=fc (fun x=>some (x*s,s)) _ _ _ W.cells _ _ g k (u _ _ _ _) F;have N:(Go.sizeOf e).run P w=.ok s w:=by
   unfold Wv at V;cases D:P.info? e with
   |none=>simp[D]at V
   |some X=>simp_all [Go.sizeOf,typeInfo]
  refine Wb (v:=.agg b) Q (Ur ?_) ⟨b.toList,by simp,j⟩
  simp_all [Instr.build,run_underlying]
end
