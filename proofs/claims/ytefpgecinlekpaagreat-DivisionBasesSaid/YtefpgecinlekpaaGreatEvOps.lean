/- Operations that leave the heap alone: what the model computes stands for what the interpreter computes. -/
import Derived.Test.YtefpgecinlekpaaGreatEvRep
import Derived.ChangeKeysEq
namespace Go.Ev
def Uk (h:HF):List (Nat×Blk)->HF
 |[]=>h
 |(id,b)::ws=>Uk (fun x=>if x=id then some b else h x) ws
def To (h:HF)(n:Nat):List Blk->HF
 |[]=>h
 |b::bs=>To (fun x=>if x=n then some b else h x) (n+1) bs
def upd (h:HF)(n:Nat)(r:Res):HF:=To (Uk h r.wr) n r.al
def WO (O:BS)(w:World)(μ:Nat->Nat)(h:HF)(n:Nat)(res:Result Next)(r:Res):Prop:=
 ∃v w' μ',(res=.ok (.value v) w'\/(res=.ok .skip w'/\v=undef))/\Xo w' O μ' (upd h n r) v r.val/\HInv w' O μ' (upd h n r)/\Mono O w μ h w' μ' (upd h n r)
section
variable {P:Program}{O:BS}{w:World}{μ:Nat->Nat}{h:HF}{n:Nat}
theorem X1 {s:Sem Value}{v:Value}{w':World}(hs:s.run P w=.ok v w'):(do pure (Next.value (<-s)):Sem Next).run P w=.ok (.value v) w':=by
 simp[Sem.run_bind,hs,Result.andThen,Sem.run,pure]
theorem XC {v:Value}{d:DV}{res:Result Next}(hI:HInv w O μ h)(hr:res=.ok (.value v) w)(hv:Xo w O μ h v d):WO O w μ h n res (.pure d):=
 ⟨v,w,μ,.inl hr,hv,hI,Mono.refl _ _ _ _⟩
theorem Un {v:Value}{d:DV}{rd:List Nat}{res:Result Next}(hI:HInv w O μ h)(hr:res=.ok (.value v) w)(hv:Xo w O μ h v d):WO O w μ h n res ⟨d,[],[],rd⟩:=
 ⟨v,w,μ,.inl hr,hv,hI,Mono.refl _ _ _ _⟩
theorem Xo.Wg {v:Value}{k:IntKind}{a:Int}(r:Xo w O μ h v (.one (.p (.int k a)))):v=.int k a:=by
 have r:RepD w O μ h v (.p (.int k a)):=r
 cases r with |p _ _ hp=>cases hp;rfl
theorem Xo.Tc {v:Value}{b:Bool}(r:Xo w O μ h v (.one (.p (.bool b)))):v=.bool b:=by
 have r:RepD w O μ h v (.p (.bool b)):=r
 cases r with |p _ _ hp=>cases hp;rfl
theorem Xo.inv_nil {v:Value}(r:Xo w O μ h v (.one (.p .nilS))):v=.slice none 0 0:=by
 have r:RepD w O μ h v (.p .nilS):=r
 cases r with |p _ _ hp=>cases hp;rfl
theorem Xo.int (k:IntKind)(a:Int):Xo w O μ h (.int k a) (.one (.p (.int k a))):=RepD.p _ _ (.int k a)
theorem Xo.bool (b:Bool):Xo w O μ h (.bool b) (.one (.p (.bool b))):=RepD.p _ _ (.bool b)
theorem run_eqGuard_int (op:BinOp)(t:TypeId)(x y:Operand)(k k':IntKind)(a b:Int):(eqGuard op t x y (.int k a) (.int k' b)).run P w=.ok () w:=by
 cases op<;>simp[eqGuard,go_sem]
theorem run_eqGuard_bool (op:BinOp)(t:TypeId)(x y:Operand)(a b:Bool):(eqGuard op t x y (.bool a) (.bool b)).run P w=.ok () w:=by
 cases op<;>simp[eqGuard,go_sem]
theorem run_eqGuard_slice (op:BinOp)(t:TypeId)(x y:Operand)(p q:Option Addr)(a b c d:Nat):(eqGuard op t x y (.slice p a b) (.slice q c d)).run P w=.ok () w:=by
 cases op<;>simp[eqGuard,go_sem]
theorem evBinI_run (op:BinOp)(t:TypeId)(k k':IntKind)(a b:Int)(d:DL)(hd:XY op k k' a b=some d):
  ∃l,d=.p l/\∃v,(binOp op t (.int k a) (.int k' b)).run P w=.ok v w/\RepP w (Live O μ h) v l:=by
 cases op with
 |shl=>
  simp only[XY]at hd
  cases b with
  |negSucc m=>simp[binShl]at hd
  |ofNat m=>
   simp only[binShl,UD,Za]at hd;subst hd
   refine⟨_,rfl,.int k (k.wrap (a*2^(min m k.bits))),?_,?_⟩
   ·simp[binOp,Op.shift,go_sem]
   ·rw[U1,kbits_eq]
    have :Int.ofNat (2^Nat.min m k.bits)=(2:Int)^(min m k.bits):=by simp
    rw[this];exact .int _ _
 |shr=>
  simp only[XY]at hd
  cases b with
  |negSucc m=>simp[Sf]at hd
  |ofNat m=>
   simp only[Sf,UD,Za]at hd;subst hd
   refine⟨_,rfl,.int k (a.fdiv (2^(min m k.bits))),?_,?_⟩
   ·simp[binOp,Op.shift,go_sem]
   ·rw[shrF_eq,kbits_eq];exact .int _ _
 |quo=>
  simp only[XY,WQ,Ua,UD]at hd
  cases hk:keq k k'<;>simp only[hk,cond_true,cond_false,reduceCtorEq]at hd
  have hk':=(Wx _ _).1 hk;subst hk'
  cases hz:eqF b 0<;>simp only[hz,cond_true,cond_false,reduceCtorEq,Za]at hd
  subst hd
  rw[eqF_eq]at hz
  have hz':b≠0:=by simpa using hz
  refine⟨_,rfl,.int k (k.wrap (a.tdiv b)),?_,?_⟩
  ·simp[binOp,Op.intDiv,go_sem,hz']
  ·rw[U1];exact .int _ _
 |rem=>
  simp only[XY,WQ,V0,UD]at hd
  cases hk:keq k k'<;>simp only[hk,cond_true,cond_false,reduceCtorEq]at hd
  have hk':=(Wx _ _).1 hk;subst hk'
  cases hz:eqF b 0<;>simp only[hz,cond_true,cond_false,reduceCtorEq,Za]at hd
  subst hd
  rw[eqF_eq]at hz
  have hz':b≠0:=by simpa using hz
  refine⟨_,rfl,.int k (a.tmod b),?_,.int _ _⟩
  simp[binOp,Op.intDiv,go_sem,hz']
 |add=>
  simp only[XY,WQ,UD]at hd
  cases hk:keq k k'<;>simp only[hk,cond_true,cond_false,reduceCtorEq,Za]at hd
  have hk':=(Wx _ _).1 hk;subst hk';subst hd
  exact⟨_,rfl,_,by simp[binOp,Op.intArith,U1],.int _ _⟩
 |sub=>
  simp only[XY,WQ,UD]at hd
  cases hk:keq k k'<;>simp only[hk,cond_true,cond_false,reduceCtorEq,Za]at hd
  have hk':=(Wx _ _).1 hk;subst hk';subst hd
  exact⟨_,rfl,_,by simp[binOp,Op.intArith,U1],.int _ _⟩
 |mul=>
  simp only[XY,WQ,UD]at hd
  cases hk:keq k k'<;>simp only[hk,cond_true,cond_false,reduceCtorEq,Za]at hd
  have hk':=(Wx _ _).1 hk;subst hk';subst hd
  exact⟨_,rfl,_,by simp[binOp,Op.intArith,U1],.int _ _⟩
 |and=>
  simp only[XY,WQ,UD]at hd
  cases hk:keq k k'<;>simp only[hk,cond_true,cond_false,reduceCtorEq,Za]at hd
  have hk':=(Wx _ _).1 hk;subst hk';subst hd
  exact⟨_,rfl,_,by rw[and_eq];simp only[binOp,ne_eq,not_true_eq_false,if_false,Op.intBits];rfl,.int _ _⟩
 |or=>
  simp only[XY,WQ,UD]at hd
  cases hk:keq k k'<;>simp only[hk,cond_true,cond_false,reduceCtorEq,Za]at hd
  have hk':=(Wx _ _).1 hk;subst hk';subst hd
  exact⟨_,rfl,_,by rw[or_eq];simp only[binOp,ne_eq,not_true_eq_false,if_false,Op.intBits];rfl,.int _ _⟩
 |xor=>
  simp only[XY,WQ,UD]at hd
  cases hk:keq k k'<;>simp only[hk,cond_true,cond_false,reduceCtorEq,Za]at hd
  have hk':=(Wx _ _).1 hk;subst hk';subst hd
  exact⟨_,rfl,_,by rw[xor_eq];simp only[binOp,ne_eq,not_true_eq_false,if_false,Op.intBits];rfl,.int _ _⟩
 |andNot=>
  simp only[XY,WQ,UD]at hd
  cases hk:keq k k'<;>simp only[hk,cond_true,cond_false,reduceCtorEq,Za]at hd
  have hk':=(Wx _ _).1 hk;subst hk';subst hd
  exact⟨_,rfl,_,by rw[andNot_eq];simp only[binOp,ne_eq,not_true_eq_false,if_false,Op.intBits];rfl,.int _ _⟩
 |eql=>
  simp only[XY,WQ,Uz]at hd
  cases hk:keq k k'<;>simp only[hk,cond_true,cond_false,reduceCtorEq,Za]at hd
  have hk':=(Wx _ _).1 hk;subst hk';subst hd
  exact⟨_,rfl,_,by simp[binOp,Op.intCmp,eqF_eq],.bool _⟩
 |neq=>
  simp only[XY,WQ,Uz]at hd
  cases hk:keq k k'<;>simp only[hk,cond_true,cond_false,reduceCtorEq,Za]at hd
  have hk':=(Wx _ _).1 hk;subst hk';subst hd
  exact⟨_,rfl,_,by simp[binOp,Op.intCmp,eqF_eq,bne],.bool _⟩
 |lss=>
  simp only[XY,WQ,Uz]at hd
  cases hk:keq k k'<;>simp only[hk,cond_true,cond_false,reduceCtorEq,Za]at hd
  have hk':=(Wx _ _).1 hk;subst hk';subst hd
  exact⟨_,rfl,_,by simp[binOp,Op.intCmp,ltF_eq],.bool _⟩
 |leq=>
  simp only[XY,WQ,Uz]at hd
  cases hk:keq k k'<;>simp only[hk,cond_true,cond_false,reduceCtorEq,Za]at hd
  have hk':=(Wx _ _).1 hk;subst hk';subst hd
  exact⟨_,rfl,_,by simp[binOp,Op.intCmp,leF_eq],.bool _⟩
 |gtr=>
  simp only[XY,WQ,Uz]at hd
  cases hk:keq k k'<;>simp only[hk,cond_true,cond_false,reduceCtorEq,Za]at hd
  have hk':=(Wx _ _).1 hk;subst hk';subst hd
  exact⟨_,rfl,_,by simp[binOp,Op.intCmp,ltF_eq],.bool _⟩
 |geq=>
  simp only[XY,WQ,Uz]at hd
  cases hk:keq k k'<;>simp only[hk,cond_true,cond_false,reduceCtorEq,Za]at hd
  have hk':=(Wx _ _).1 hk;subst hk';subst hd
  exact⟨_,rfl,_,by simp[binOp,Op.intCmp,leF_eq],.bool _⟩
theorem sim_bin (op:BinOp)(t u:TypeId)(x y:Operand)(ρ:Operand->Value)(o:Oper)(ho:o.op=.binOp op t x y u)
  (dx dy:DV) (hx:Xo w O μ h (ρ x) dx) (hy:Xo w O μ h (ρ y) dy) (r:Res) (hr:opBin op [dx,dy]=some r) (hI:HInv w O μ h):
  WO O w μ h n ((execOp ρ o).run P w) r:=by
 unfold opBin at hr
 split at hr
 ·rename_i k a k' b heq
  simp only[ZI,and_true]at heq
  obtain⟨rfl,rfl⟩:=heq
  cases hd:XY op k k' a b with
  |none=>simp[hd]at hr
  |some d=>
  simp only[hd,Za]at hr;subst hr
  have ex:=hx.Wg;have ey:=hy.Wg
  obtain⟨l,rfl,v,hv,hp⟩:=evBinI_run (P:=P) (w:=w) (O:=O) (μ:=μ) (h:=h) op t k k' a b d hd
  refine XC (v:=v) hI ?_ (RepD.p _ _ hp)
  simp only[execOp,ho]
  exact X1 (by simp[Sem.run_bind,ex,ey,run_eqGuard_int,Result.andThen,hv])
 ·simp at hr
theorem sim_binB (neq:Bool)(t u:TypeId)(x y:Operand)(ρ:Operand->Value)(o:Oper)(ho:o.op=.binOp (if neq then .neq else .eql) t x y u)(ht:P.underlying t=some .bool)
  (dx dy:DV) (hx:Xo w O μ h (ρ x) dx) (hy:Xo w O μ h (ρ y) dy) (r:Res) (hr:opBinB neq [dx,dy]=some r) (hI:HInv w O μ h):
  WO O w μ h n ((execOp ρ o).run P w) r:=by
 unfold opBinB at hr
 split at hr
 ·rename_i a b heq
  simp only[ZI,and_true]at heq
  obtain⟨rfl,rfl⟩:=heq
  simp only[Za]at hr;subst hr
  have ex:=hx.Tc;have ey:=hy.Tc
  refine XC (v:=.bool ((a==b)!=neq)) hI ?_ (Xo.bool _)
  simp only[execOp,ho]
  refine X1 ?_
  rw[Sem.run_bind,ex,ey,run_eqGuard_bool]
  cases neq
  ·simp only[Result.andThen,binOp,Sem.run_bind,run_equal_bool w t a b ht,if_false,Zs]
   simp[pure]
  ·simp only[Result.andThen,binOp,Sem.run_bind,run_equal_bool w t a b ht,if_true]
   simp[pure]
 ·simp at hr
end
end Go.Ev
namespace Go.Ev
section
variable {P:Program}{O:BS}{w:World}{μ:Nat->Nat}{h:HF}{n:Nat}
theorem Vs (b o k:Nat):(⟨b,o,none⟩:Addr).add k=⟨b,o+k,none⟩:=by
 unfold Addr.add;split<;>simp_all
theorem Xo.inv_str {v:Value}{bs:List Nat}(r:Xo w O μ h v (.one (.p (.str bs)))):∃s:ByteArray,v=.string s/\bs=s.data.toList.map UInt8.toNat:=by
 have r:RepD w O μ h v (.p (.str bs)):=r
 cases r with |p _ _ hp=>cases hp;exact⟨_,rfl,rfl⟩
theorem Xo.inv_ref {v:Value}{cs:List PL}(r:Xo w O μ h v (.one (.p (.ref cs)))):∃b off,v=.pointer (some ⟨b,off,none⟩)/\∃vals:Nat->Value,(∀(j:Nat) (d:PL),cs[j]? =some d->¬Live O μ h b)/\
  (∀(j:Nat) (d:PL),cs[j]? =some d->w.cell? ⟨b,off+j,none⟩=some (vals j))/\(∀(j:Nat) (d:PL),cs[j]? =some d->RepP w (Live O μ h) (vals j) d):=by
 have r:RepD w O μ h v (.p (.ref cs)):=r
 cases r with |p _ _ hp=>cases hp with |ref b off _ vals ho hc hr=>exact⟨b,off,rfl,vals,ho,hc,hr⟩
theorem Xo.inv_lst {v:Value}{es:List (List PL)}(r:Xo w O μ h v (.one (.p (.lst es)))):∃b off sz cap sp,v=.slice (some ⟨b,off,sp⟩) es.length cap/\(es=[]\/sp=none)/\es.length<=cap/\
  (∀(i:Nat) (c:List PL),es[i]? =some c->c.length=sz)/\∃vals:Nat->Nat->Value,(∀(i:Nat) (c:List PL) (j:Nat) (d:PL),es[i]? =some c->c[j]? =some d->¬Live O μ h b)/\
  (∀(i:Nat) (c:List PL) (j:Nat) (d:PL),es[i]? =some c->c[j]? =some d->w.cell? ⟨b,off+i*sz+j,none⟩=some (vals i j))/\(∀(i:Nat) (c:List PL) (j:Nat) (d:PL),es[i]? =some c->c[j]? =some d->RepP w (Live O μ h) (vals i j) d):=by
 have r:RepD w O μ h v (.p (.lst es)):=r
 cases r with |p _ _ hp=>cases hp with |lst b off sz cap _ vals ho hcap hs hc hr hsp=>exact⟨b,off,sz,cap,_,rfl,hsp,hcap,hs,vals,ho,hc,hr⟩
theorem Xo.UY {v:Value}{id ver off len:Nat}(r:Xo w O μ h v (.one (.own id ver off len))):∃b g o cap,v=.slice (some ⟨g,o,none⟩) len cap/\h id=some b/\ver<=b.ver/\len<=cap/\
  (ver=b.ver->g=μ id/\∃(C:Array Value) (T:TypeId),w.heap[μ id]? =some (.cells C T (0,0))/\((o=off*b.sz/\(off+cap)*b.sz=C.size/\cap<=maxLen)\/(len=0/\cap=0/\0<off))):=by
 have r:RepD w O μ h v (.own id ver off len):=r
 cases r with |own _ _ _ _ b g o cap hb hv hl hs=>exact⟨b,g,o,cap,rfl,hb,hv,hl,hs⟩
theorem Xo.Ra {v:Value}{id ver i off:Nat}(r:Xo w O μ h v (.one (.ptr id ver i off))):∃b g o,v=.pointer (some ⟨g,o,none⟩)/\h id=some b/\ver<=b.ver/\(ver=b.ver->g=μ id/\o=i*b.sz+off):=by
 have r:RepD w O μ h v (.ptr id ver i off):=r
 cases r with |ptr _ _ _ _ b g o hb hv hs=>exact⟨b,g,o,rfl,hb,hv,hs⟩
theorem sim_move (x:Operand)(ρ:Operand->Value)(o:Oper)(ho:o.op=.move x\/o.op=.assign x)(dx:DV)(hx:Xo w O μ h (ρ x) dx)(r:Res)(hr:opMove [dx]=some r)(hI:HInv w O μ h):
  WO O w μ h n ((execOp ρ o).run P w) r:=by
 simp only[opMove,Za]at hr;subst hr
 refine XC hI ?_ hx
 rcases ho with ho|ho<;>simp[execOp,ho]
theorem sim_nilCheck (x:Operand)(ρ:Operand->Value)(o:Oper)(ho:o.op=.nilCheck x)(dx:DV)(hx:Xo w O μ h (ρ x) dx)(r:Res)(hr:UH [dx]=some r)(hI:HInv w O μ h):
  WO O w μ h n ((execOp ρ o).run P w) r:=by
 unfold UH at hr
 split at hr<;>simp only[reduceCtorEq,Za]at hr<;>subst hr<;>rename_i heq<;>simp only[ZI,and_true]at heq<;>subst heq
 ·obtain⟨b,g,q,e,_⟩:=hx.Ra
  exact XC hI (by simp[execOp,ho,e]) hx
 ·obtain⟨b,q,e,_⟩:=hx.inv_ref
  exact XC hI (by simp[execOp,ho,e]) hx
 ·have hx':RepD w O μ h (ρ x) (.fn _ _):=hx
  generalize hv:ρ x=v at hx'
  cases hx' with
  |fn f caps cv hl hc=>obtain⟨g,a,b,e⟩:=fnV_shape _ cv;have hv2:=hv.trans e;exact XC hI (by simp[execOp,ho,hv2]) hx
 ·have hx':RepD w O μ h (ρ x) (.p (.fn _ _)):=hx
  generalize hv:ρ x=v at hx'
  cases hx' with
  |p _ _ hp=>cases hp with
   |fn f caps cv hl hc=>obtain⟨g,a,b,e⟩:=fnV_shape _ cv;have hv2:=hv.trans e;exact XC hI (by simp[execOp,ho,hv2]) hx
theorem sim_pick (c x y:Operand)(ρ:Operand->Value)(o:Oper)(ho:o.op=.pick c x y)(dc dx dy:DV)(hc:Xo w O μ h (ρ c) dc)(hx:Xo w O μ h (ρ x) dx)(hy:Xo w O μ h (ρ y) dy)(r:Res)
  (hr:opPick [dc,dx,dy]=some r) (hI:HInv w O μ h):WO O w μ h n ((execOp ρ o).run P w) r:=by
 unfold opPick at hr
 split at hr
 ·rename_i b p q heq
  simp only[ZI,and_true]at heq
  obtain⟨rfl,rfl,rfl⟩:=heq
  simp only[Za]at hr;subst hr
  have e:=hc.Tc
  cases b
  ·exact XC hI (by simp[execOp,ho,e,asBool]) hy
  ·exact XC hI (by simp[execOp,ho,e,asBool]) hx
 ·simp at hr
theorem sim_conv (s d:TypeId)(k:IntKind)(x:Operand)(ρ:Operand->Value)(o:Oper)(ho:o.op=.convert s d x)(hs:∃u,P.underlying s=some u)(hd:P.underlying d=some (.int k))(dx:DV)(hx:Xo w O μ h (ρ x) dx)(r:Res)
  (hr:opConv k [dx]=some r) (hI:HInv w O μ h):WO O w μ h n ((execOp ρ o).run P w) r:=by
 unfold opConv at hr
 split at hr
 ·rename_i k' a heq
  simp only[ZI,and_true]at heq;subst heq
  simp only[Za]at hr;subst hr
  have e:=hx.Wg
  obtain⟨u,hu⟩:=hs
  rw[U1]
  refine XC hI ?_ (Xo.int _ _)
  simp only[execOp,ho]
  exact X1 (by simp[convert,underlying,hu,hd,e,Conv.intToInt,Sem.run_bind,Result.andThen,go_sem])
 ·simp at hr
theorem sim_un (op:UnOp)(t:TypeId)(x:Operand)(ρ:Operand->Value)(o:Oper)(ho:o.op=.unOp op t x)(dx:DV)(hx:Xo w O μ h (ρ x) dx)(r:Res)
  (hr:opUn op [dx]=some r) (hI:HInv w O μ h):WO O w μ h n ((execOp ρ o).run P w) r:=by
 cases dx with
 |agg _=>simp[opUn]at hr
 |tup _=>simp[opUn]at hr
 |one l=>
 simp only[opUn]at hr
 cases hd:evUn op l with
 |none=>simp[hd]at hr
 |some d=>
 simp only[hd,Za]at hr;subst hr
 unfold evUn at hd
 split at hd
 ·rename_i k a
  have e:=hx.Wg
  cases op<;>simp only[reduceCtorEq,Za]at hd<;>subst hd
  ·rw[U1]
   refine XC hI ?_ (Xo.int _ _)
   simp only[execOp,ho]
   exact X1 (by simp[Op.unary,e,Op.intArith])
  ·rw[unxor_eq]
   refine XC hI ?_ (Xo.int _ _)
   simp only[execOp,ho]
   exact X1 (by simp only[Op.unary,e,Op.intBits];rfl)
 ·rename_i b
  have e:=hx.Tc
  cases op<;>simp only[reduceCtorEq,Za]at hd<;>subst hd
  refine XC hI ?_ (Xo.bool _)
  simp only[execOp,ho]
  exact X1 (by simp[Op.unary,e])
 ·simp at hd
theorem sim_extract (k:Nat)(x:Operand)(ρ:Operand->Value)(o:Oper)(ho:o.op=.extract x k)(dx:DV)(hx:Xo w O μ h (ρ x) dx)(r:Res)
  (hr:UJ k [dx]=some r) (hI:HInv w O μ h):WO O w μ h n ((execOp ρ o).run P w) r:=by
 unfold UJ at hr
 split at hr
 ·rename_i vs heq
  simp only[ZI,and_true]at heq;subst heq
  obtain⟨xs,e,ha⟩:=hx
  cases hv:vs[k]? with
  |none=>simp[hv]at hr
  |some d=>
  simp only[hv,Za]at hr;subst hr
  obtain⟨v,hv1,hv2⟩:=ha.get k d hv
  refine XC hI ?_ (Xo.of1 hv2)
  simp only[execOp,ho]
  exact X1 (by simp[Instr.extract,e,hv1])
 ·simp at hr
theorem sim_len (t:TypeId)(x:Operand)(ρ:Operand->Value)(o:Oper)(ts:Array TypeId)(ho:o.op=.call ⟨.builtin .len,#[x],ts⟩)(e:TypeId)(ht:ts[0]? =some t)(hu:P.underlying t=some (.slice e))(dx:DV)(hx:Xo w O μ h (ρ x) dx)(r:Res)
  (hr:TQ [dx]=some r) (hI:HInv w O μ h):WO O w μ h n ((execOp ρ o).run P w) r:=by
 have key:∀(p:Option Addr) (len cap:Nat),ρ x=.slice p len cap->(execOp ρ o).run P w=.ok (.value (.int .i64 (Int.ofNat len))) w:=by
  intro p len cap he
  simp[execOp,ho,resolve,invoke,builtin,Builtin.len_,ht,he,underlying,hu,goInt,Sem.run_bind,Result.andThen,go_sem]
 unfold TQ at hr
 split at hr<;>simp only[reduceCtorEq,Za]at hr<;>subst hr<;>rename_i heq<;>simp only[ZI,and_true]at heq<;>subst heq
 ·exact XC hI (key _ _ _ hx.inv_nil) (Xo.int _ _)
 ·obtain⟨b,off,sz,cap,sp,he,_⟩:=hx.inv_lst
  exact XC hI (key _ _ _ he) (Xo.int _ _)
 ·obtain⟨b,g,q,cap,he,_⟩:=hx.UY
  exact XC hI (key _ _ _ he) (Xo.int _ _)
end
end Go.Ev
namespace Go.Ev
section
variable {P:Program}{O:BS}{w:World}{μ:Nat->Nat}{h:HF}{n:Nat}
theorem Xk {α:Type}{b:Bool}{x y:α}(h:(bif b then some x else none)=some y):b=true/\x=y:=by
 cases b<;>simp_all
theorem sim_fieldAddr (s:TypeId)(fs:Array Field)(f:Nat)(fl:Field)(i:TypeInfo)(x:Operand)(ρ:Operand->Value)(o:Oper)(ho:o.op=.fieldAddr s x f)(hs:P.underlying s=some (.struct fs))(hf:fs[f]? =some fl)
  (hi:P.info? fl.type=some i) (hz:i.size≠0) (dx:DV) (hx:Xo w O μ h (ρ x) dx) (r:Res) (hr:Vg fl.offset [dx]=some r) (hI:HInv w O μ h):WO O w μ h n ((execOp ρ o).run P w) r:=by
 have key:∀(g q:Nat),ρ x=.pointer (some ⟨g,q,none⟩)->(execOp ρ o).run P w=.ok (.value (.pointer (some ⟨g,q+fl.offset,none⟩))) w:=by
  intro g q he
  simp only[execOp,ho]
  refine X1 ?_
  simp[Instr.fieldAt,underlying,hs,hf,he,Instr.sureAddr,fieldPlace,Go.sizeOf,typeInfo,hi,hz,Sem.run_bind,Result.andThen,go_sem,Vs]
 unfold Vg at hr
 split at hr
 ·rename_i cs heq
  simp only[ZI,and_true]at heq;subst heq
  obtain⟨_,rfl⟩:=Xk hr
  obtain⟨b,off,he,vals,hl,hc,hp⟩:=hx.inv_ref
  refine XC hI (key _ _ he) (RepD.p _ _ (.ref _ _ _ (fun j=>vals (fl.offset+j)) (fun j d hj=> ?_) (fun j d hj=> ?_) (fun j d hj=> ?_)))
  ·rw[Z8]at hj;exact hl _ _ hj
  ·rw[Z8]at hj;have:=hc _ _ hj;rw[Nat.add_assoc];exact this
  ·rw[Z8]at hj;exact hp _ _ hj
 ·rename_i id ver j q heq
  simp only[ZI,and_true]at heq;subst heq
  simp only[Za]at hr;subst hr
  obtain⟨b,g,q',he,hb,hv,hsm⟩:=hx.Ra
  exact XC hI (key _ _ he) (RepD.ptr _ _ _ _ b _ _ hb hv fun e=>by obtain⟨h1,h2⟩:=hsm e;exact⟨h1,by omega⟩)
 ·simp at hr
theorem sim_indexS (t e:TypeId)(i:TypeInfo)(x ix:Operand)(ρ:Operand->Value)(o:Oper)(ho:o.op=.indexAddr t x ix)(ht:P.underlying t=some (.slice e))(hi:P.info? e=some i)
  (dx di:DV) (hx:Xo w O μ h (ρ x) dx) (hix:Xo w O μ h (ρ ix) di) (r:Res) (hr:WH i.size h [dx,di]=some r) (hI:HInv w O μ h):WO O w μ h n ((execOp ρ o).run P w) r:=by
 have key:∀(g q len cap j:Nat) (k:IntKind),ρ x=.slice (some ⟨g,q,none⟩) len cap->ρ ix=.int k (Int.ofNat j)->j<len->(execOp ρ o).run P w=.ok (.value (.pointer (some ⟨g,q+j*i.size,none⟩))) w:=by
  intro g q len cap j k he hj hlt
  simp only[execOp,ho]
  refine X1 ?_
  simp[Instr.indexAt,asIntOf,underlying,ht,he,hj,Go.sizeOf,typeInfo,hi,Sem.run_bind,Result.andThen,go_sem,Vs]
  intro hle;omega
 unfold WH at hr
 split at hr
 ·rename_i es k j heq
  simp only[ZI,and_true]at heq;obtain⟨rfl,rfl⟩:=heq
  cases hc:es[j]? with
  |none=>simp[hc]at hr
  |some c=>
  simp only[hc]at hr
  obtain⟨hcl,rfl⟩:=Xk hr
  obtain⟨b,off,sz,cap,sp,he,hsp,hcap,hs,vals,hl,hcell,hp⟩:=hx.inv_lst
  obtain rfl:sp=none:=hsp.resolve_left (fun e0=>by rw[e0]at hc;simp at hc)
  have hj:j<es.length:=(Zb.1 hc).1
  have hszc:i.size=sz:=by rw[<-hs j c hc];exact(Zj hcl).symm
  refine XC hI (key _ _ _ _ _ _ he hix.Wg hj) (RepD.p _ _ (.ref _ _ _ (fun q=>vals j q) (fun q d hq=>hl j c q d hc hq) (fun q d hq=> ?_) (fun q d hq=>hp j c q d hc hq)))
  rw[hszc];exact hcell j c q d hc hq
 ·rename_i id ver off len k j heq
  simp only[ZI,and_true]at heq;obtain⟨rfl,rfl⟩:=heq
  obtain⟨b,g,q,cap,he,hb,hv,hcap,hsm⟩:=hx.UY
  simp only[hb]at hr
  obtain⟨hlt,rfl⟩:=Xk hr
  rw[Zo]at hlt
  obtain⟨hsz,hlt⟩:=hlt
  have hsz:=Zj hsz
  have hlt:j<len:=by simpa[Nat.blt_eq]using hlt
  refine Un hI (key _ _ _ _ _ _ he hix.Wg hlt) (RepD.ptr _ _ _ _ b _ _ hb hv fun e=> ?_)
  obtain⟨hg,C,T,hC,hd⟩:=hsm e
  rcases hd with⟨ho',_⟩|⟨h0,_⟩
  ·refine⟨hg,?_⟩
   rw[ho',hsz,ZJ];simp
  ·omega
 ·simp at hr
theorem Wb {a b:Nat}(h:Nat.ble a b=true):a<=b:=Nat.le_of_ble_eq_true h
theorem TL {a b:Nat}(h:Nat.blt a b=true):a<b:=by simpa[Nat.blt_eq]using h
theorem sim_indexA (t e:TypeId)(m:Nat)(i:TypeInfo)(x ix:Operand)(ρ:Operand->Value)(o:Oper)(ho:o.op=.indexAddr t x ix)(ht:P.underlying t=some (.array m e))(hi:P.info? e=some i)
  (dx di:DV) (hx:Xo w O μ h (ρ x) dx) (hix:Xo w O μ h (ρ ix) di) (r:Res) (hr:U7 m i.size [dx,di]=some r) (hI:HInv w O μ h):WO O w μ h n ((execOp ρ o).run P w) r:=by
 have key:∀(g q j:Nat) (k:IntKind),ρ x=.pointer (some ⟨g,q,none⟩)->ρ ix=.int k (Int.ofNat j)->j<m->(execOp ρ o).run P w=.ok (.value (.pointer (some ⟨g,q+j*i.size,none⟩))) w:=by
  intro g q j k he hj hlt
  simp only[execOp,ho]
  refine X1 ?_
  simp[Instr.indexAt,asIntOf,underlying,ht,he,hj,Go.sizeOf,typeInfo,hi,Instr.sureAddr,Sem.run_bind,Result.andThen,go_sem,Vs,hlt]
 unfold U7 at hr
 split at hr
 ·rename_i cs k j heq
  simp only[ZI,and_true]at heq;obtain⟨rfl,rfl⟩:=heq
  obtain⟨hb,rfl⟩:=Xk hr
  rw[Zo]at hb
  obtain⟨b,off,he,vals,hl,hc,hp⟩:=hx.inv_ref
  refine XC hI (key _ _ _ _ he hix.Wg (TL hb.1)) (RepD.p _ _ (.ref _ _ _ (fun q=>vals (j*i.size+q)) (fun q d hq=> ?_) (fun q d hq=> ?_) (fun q d hq=> ?_)))
  ·rw[Z8]at hq;exact hl _ _ hq
  ·rw[Z8]at hq;have:=hc _ _ hq;rw[Nat.add_assoc];exact this
  ·rw[Z8]at hq;exact hp _ _ hq
 ·rename_i id ver jj q k j heq
  simp only[ZI,and_true]at heq;obtain⟨rfl,rfl⟩:=heq
  obtain⟨hb,rfl⟩:=Xk hr
  obtain⟨b,g,q',he,hb',hv,hsm⟩:=hx.Ra
  exact XC hI (key _ _ _ _ he hix.Wg (TL hb)) (RepD.ptr _ _ _ _ b _ _ hb' hv fun e=>by obtain⟨h1,h2⟩:=hsm e;exact⟨h1,by omega⟩)
 ·simp at hr
theorem part_head (t:TypeId)(i:TypeInfo)(agg:Bool)(ha:aggT P t=some agg)(hi:P.info? t=some i)(xs:List Value)(cs:List DL)(hxs:All2 (RepD w O μ h) xs cs)(off:Nat)(v:DV)(hv:Uf agg i.size (cs.drop off)=some v):
  ∃u,(part t xs.toArray off).run P w=.ok u w/\Xo w O μ h u v:=by
 have hagg:(isAgg t).run P w=.ok agg w:=by
  unfold aggT at ha
  unfold isAgg
  split at ha<;>simp only[Za,reduceCtorEq]at ha<;>subst ha<;>rename_i hu
  ·simp[underlying,hu]
  ·simp[underlying,hu]
  ·rename_i hn1 hn2
   rename_i d
   cases d<;>simp_all [underlying]
 unfold Uf at hv
 cases agg with
 |true=>
  simp only[cond_true]at hv
  obtain⟨hle,rfl⟩:=Xk hv
  have hle:=Wb hle
  refine⟨.agg ((xs.drop off).take i.size).toArray,?_,⟨_,rfl,(hxs.drop off).take i.size⟩⟩
  have hsz:(Go.sizeOf t).run P w=.ok i.size w:=by simp[Go.sizeOf,typeInfo,hi]
  simp[part,Sem.run_bind,hagg,Result.andThen,hsz]
 |false=>
  simp only[cond_false]at hv
  cases hc:cs.drop off with
  |nil=>simp[hc]at hv
  |cons c rest=>
  simp only[hc,Za]at hv;subst hv
  have h0:cs[off]? =some c:=by
   have:=Z8 (xs:=cs) (i:=off) (j:=0)
   rw[hc]at this;simpa using this.symm
  obtain⟨u,hu,hd⟩:=hxs.get off c h0
  refine⟨u,?_,hd⟩
  simp[part,Sem.run_bind,hagg,Result.andThen,hu]
end
end Go.Ev
namespace Go.Ev
section
variable {P:Program}{O:BS}{w:World}{μ:Nat->Nat}{h:HF}{n:Nat}
theorem run_slice (t e:TypeId)(i:TypeInfo)(p:Option Addr)(len cap:Nat)(ht:P.underlying t=some (.slice e))(hi:P.info? e=some i)(lo hi':Option Value)(l u:Nat)
  (hlo:(lo=none/\l=0)\/∃k,lo=some (.int k (Int.ofNat l))) (hhi:(hi'=none/\u=len)\/∃k,hi'=some (.int k (Int.ofNat u))) (h1:l<=u) (h2:u<=cap):
  (Instr.sliceAt t (.slice p len cap) lo hi' none).run P w=.ok (.slice (if cap=l then p else p.map (·.add (l*i.size))) (u-l) (cap-l)) w:=by
 have b1:∀c,(Instr.sliceBound (.int .i64 (Int.ofNat l)) u c).run P w=.ok l w:=by intro c;simp[Instr.sliceBound,asIntOf];intro;omega
 have hsz:(Go.sizeOf e).run P w=.ok i.size w:=by simp[Go.sizeOf,typeInfo,hi]
 rcases hlo with⟨rfl,rfl⟩|⟨k,rfl⟩<;>rcases hhi with⟨rfl,rfl⟩|⟨k',rfl⟩<;>
  simp[Instr.sliceAt,Instr.slice,underlying,ht,Instr.sliceBounds,Instr.sliceBound,asIntOf,hsz,Sem.run_bind,Result.andThen,h1,h2]
theorem RepD.own_slice {id ver off len l u:Nat}{v:Value}(i:TypeInfo)(b:Blk)(hb:h id=some b)(hsz:b.sz=i.size)(g q cap:Nat)(hv:ver<=b.ver)(h1:l<=u)(h2:u<=cap)
  (hs:ver=b.ver->g=μ id/\∃(C:Array Value) (T:TypeId),w.heap[μ id]? =some (.cells C T (0,0))/\((q=off*b.sz/\(off+cap)*b.sz=C.size/\cap<=maxLen)\/(len=0/\cap=0/\0<off)))
  (he:v=.slice (if cap=l then some ⟨g,q,none⟩else some ⟨g,q+l*i.size,none⟩) (u-l) (cap-l)):RepD w O μ h v (.own id ver (off+l) (u-l)):=by
 subst he
 by_cases hc:cap=l
 ·rw[if_pos hc]
  refine .own id ver (off+l) (u-l) b g q (cap-l) hb hv (by omega) fun e=> ?_
  obtain⟨hg,C,T,hC,hd⟩:=hs e
  refine⟨hg,C,T,hC,?_⟩
  rcases hd with⟨ho,hz,hm⟩|⟨h0,h00,hof⟩
  ·by_cases hl0:l=0
   ·subst hl0;left;exact⟨by simpa using ho,by simpa using hz,by omega⟩
   ·right;exact⟨by omega,by omega,by omega⟩
  ·right;exact⟨by omega,by omega,by omega⟩
 ·rw[if_neg hc]
  refine .own id ver (off+l) (u-l) b g _ (cap-l) hb hv (by omega) fun e=> ?_
  obtain⟨hg,C,T,hC,hd⟩:=hs e
  refine⟨hg,C,T,hC,?_⟩
  rcases hd with⟨ho,hz,hm⟩|⟨h0,h00,hof⟩
  ·left
   refine⟨by rw[ho,hsz,ZJ],?_,by omega⟩
   rw[<-hz];congr 1;omega
  ·omega
theorem RepP.emp {L:BS}(a:Addr)(cap:Nat):RepP w L (.slice (some a) 0 cap) (.lst []):=
 .lst a.block a.off 0 cap [] (fun _ _=>.bool true) (fun i c j d hi=>by simp at hi) (by simp) (fun i c hi=>by simp at hi) (fun i c j d hi=>by simp at hi) (fun i c j d hi=>by simp at hi) (.inl rfl)
theorem RepP.lst_slice {L:BS}{es:List (List PL)}{v:Value}(i:TypeInfo){b off sz cap l u:Nat}(hcap:es.length<=cap)(hs:∀(i:Nat) (c:List PL),es[i]? =some c->c.length=sz)(vals:Nat->Nat->Value)
  (hl:∀(i:Nat) (c:List PL) (j:Nat) (d:PL),es[i]? =some c->c[j]? =some d->¬L b)
  (hc:∀(i:Nat) (c:List PL) (j:Nat) (d:PL),es[i]? =some c->c[j]? =some d->w.cell? ⟨b,off+i*sz+j,none⟩=some (vals i j))
  (hp:∀(i:Nat) (c:List PL) (j:Nat) (d:PL),es[i]? =some c->c[j]? =some d->RepP w L (vals i j) d) (h1:l<=u) (h2:u<=es.length) (hsz:(∃c,es[l]? =some c)->l≠cap->sz=i.size)
  (he:v=.slice (if cap=l then some ⟨b,off,none⟩else some ⟨b,off+l*i.size,none⟩) (u-l) (cap-l)):RepP w L v (.lst ((es.take u).drop l)):=by
 have hlen:((es.take u).drop l).length=u-l:=by simp;omega
 have hget:∀(k:Nat) (c:List PL),((es.take u).drop l)[k]? =some c->es[l+k]? =some c/\l+k<u:=by
  intro k c hk
  rw[Z8,Z7]at hk
  split at hk
  ·exact⟨hk,by assumption⟩
  ·simp at hk
 subst he
 by_cases hcl:cap=l
 ·rw[if_pos hcl]
  have hul:u-l=0:=by omega
  have hnil:(es.take u).drop l=[]:=YB (by rw[hlen,hul])
  rw[hnil,hul]
  exact .lst b off sz (cap-l) [] (fun _ _=>.bool true) (fun i c j d hi=>by simp at hi) (by simp) (fun i c hi=>by simp at hi) (fun i c j d hi=>by simp at hi) (fun i c j d hi=>by simp at hi) (.inr rfl)
 ·rw[if_neg hcl,<-hlen]
  refine .lst b (off+l*i.size) sz (cap-l) _ (fun k j=>vals (l+k) j) (fun k c j d hk hj=>hl _ _ _ _ (hget k c hk).1 hj) (by rw[hlen];omega) (fun k c hk=>hs _ _ (hget k c hk).1) (fun k c j d hk hj=> ?_) (fun k c j d hk hj=>hp _ _ _ _ (hget k c hk).1 hj) (.inr rfl)
  have hk':=(hget k c hk).1
  have hll:l<es.length:=by have:=(Zb.1 hk').1;omega
  have hsi:=hsz ⟨es[l],by simp[hll]⟩ (fun e=>hcl e.symm)
  have:=hc _ _ _ _ hk' hj
  rw[<-hsi]
  rw[ZJ,<-Nat.add_assoc]at this
  exact this
theorem sim_slice (t e:TypeId)(i:TypeInfo)(x:Operand)(lo hi':Option Operand)(ρ:Operand->Value)(o:Oper)(ho:o.op=.slice t x lo hi' none)(ht:P.underlying t=some (.slice e))(hi:P.info? e=some i)
  (dx:DV) (ds:List DV) (hx:Xo w O μ h (ρ x) dx) (hds:All2 (fun y d=>Xo w O μ h (ρ y) d) (lo.toList++hi'.toList) ds) (r:Res) (hr:TP i.size lo.isSome hi'.isSome h (dx::ds)=some r) (hI:HInv w O μ h):
  WO O w μ h n ((execOp ρ o).run P w) r:=by
 unfold TP at hr
 cases hsa:WT lo.isSome hi'.isSome (dx::ds)with
 |none=>simp[hsa]at hr
 |some q=>
 obtain⟨y,l,u⟩:=q
 simp only[hsa]at hr
 have args:dx=.one y/\(∃lv:Option Value,lo.map ρ=lv/\((lv=none/\l=0)\/∃k,lv=some (.int k (Int.ofNat l))))/\
   (∃hv:Option Value,hi'.map ρ=hv/\((hv=none/\u=none)\/∃k u',hv=some (.int k (Int.ofNat u'))/\u=some u')):=by
  cases lo with
  |none=>
   cases hi' with
   |none=>
    cases hds
    simp only[WT,Option.isSome_none]at hsa
    split at hsa<;>simp_all
   |some hh=>
    cases hds with
    |cons h1 t1=>cases t1
                 unfold WT at hsa
                 split at hsa<;>simp_all
                 obtain⟨rfl,rfl,rfl⟩:=hsa
                 exact⟨_,_,h1.Wg,rfl⟩
  |some ll=>
   cases hi' with
   |none=>
    cases hds with
    |cons h1 t1=>cases t1
                 unfold WT at hsa
                 split at hsa<;>simp_all
                 obtain⟨rfl,rfl,rfl⟩:=hsa
                 exact⟨_,h1.Wg⟩
   |some hh=>
    cases hds with
    |cons h1 t1=>cases t1 with
     |cons h2 t2=>cases t2
                  unfold WT at hsa
                  split at hsa<;>simp_all
                  obtain⟨rfl,rfl,rfl⟩:=hsa
                  exact⟨⟨_,h1.Wg⟩,_,_,h2.Wg,rfl⟩
 obtain⟨rfl,⟨lv,hlv,hlo⟩,hv',hhv,hhi⟩:=args
 have key:∀(p:Option Addr) (len cap:Nat),ρ x=.slice p len cap->l<=u.getD len->u.getD len<=cap->
   (execOp ρ o).run P w=.ok (.value (.slice (if cap=l then p else p.map (·.add (l*i.size))) (u.getD len-l) (cap-l))) w:=by
  intro p len cap he h1 h2
  simp only[execOp,ho]
  refine X1 ?_
  rw[he,hlv,hhv]
  refine run_slice t e i p len cap ht hi lv hv' l (u.getD len) hlo ?_ h1 h2
  rcases hhi with⟨a,b⟩|⟨k,u',a,b⟩
  ·exact .inl ⟨a,by rw[b];rfl⟩
  ·exact .inr ⟨k,by rw[a,b];rfl⟩
 cases hsi:X6 i.size h y l u with
 |none=>simp[hsi]at hr
 |some q=>
 obtain⟨d,rd⟩:=q
 simp only[hsi,Za]at hr;subst hr
 unfold X6 at hsi
 split at hsi
 ·
  rename_i es
  obtain⟨hb,heq⟩:=Xk hsi
  simp only[Zl]at heq;obtain⟨rfl,rfl⟩:=heq
  simp only[Zo]at hb
  obtain⟨b,off,sz,cap,sp,he,hsp,hcap,hs,vals,hl,hcell,hp⟩:=hx.inv_lst
  have h1:=Wb hb.1.1;have h2:=Wb hb.1.2
  rcases hsp with rfl|rfl
  ·refine Un hI (key _ _ _ he h1 (by omega)) (RepD.p _ _ ?_)
   have e1:u.getD 0-l=0:=by simp only[Zw]at h2;omega
   have e2:(([]:List (List PL)).take (u.getD 0)).drop l=[]:=by simp
   simp only[Zw]at e1⊢
   rw[e1,e2]
   split
   ·exact RepP.emp _ _
   ·exact RepP.emp _ _
  refine Un hI (key _ _ _ he h1 (by omega)) (RepD.p _ _ (RepP.lst_slice i hcap hs vals hl hcell hp h1 h2 (fun⟨c,hcc⟩ _=> ?_) ?_))
  ·have:=hb.2;rw[hcc]at this;rw[<-hs l c hcc];exact Zj this
  ·split<;>simp[Vs]
 ·
  obtain⟨hb,heq⟩:=Xk hsi
  simp only[Zl]at heq;obtain⟨rfl,rfl⟩:=heq
  simp only[Zo]at hb
  have h1:=Zj hb.1;have h2:=Zj hb.2
  subst h1
  refine Un hI ((key _ _ _ hx.inv_nil (by omega) (by omega)).trans ?_) (RepD.p _ _ .nilS)
  simp[h2]
 ·
  rename_i id ver off len
  obtain⟨b,g,q,cap,he,hb',hv,hcap,hsm⟩:=hx.UY
  simp only[hb']at hsi
  obtain⟨hb,heq⟩:=Xk hsi
  simp only[Zl]at heq;obtain⟨rfl,rfl⟩:=heq
  simp only[Zo]at hb
  have h1:=Wb hb.1.1
  have h3:=Zj hb.2
  have h2:u.getD len<=cap:=by
   rcases Bool.or_eq_true_iff.1 hb.1.2 with h2|h2
   ·have:=Wb h2;omega
   ·simp only[Zo,YJ]at h2
    obtain⟨⟨⟨⟨e1,e2⟩,e3⟩,e4⟩,e5⟩:=h2
    have e1:=Zj e1;have e3:=Zj e3
    have e4:=TL e4;have e5:=Wb e5
    obtain⟨_,C,T,hC,hd⟩:=hsm e1.symm
    have hbk:=hI.blk id b hb'
    simp only[X9,e2,Zs,if_false]at hbk
    obtain⟨C',hC',hle,_⟩:=hbk
    rw[hC]at hC';cases hC'
    rcases hd with⟨_,hz,_⟩|⟨_,_,hof⟩
    ·rw[e3,ZY]at hz
     rw[<-hz]at hle
     have:=Nat.le_of_mul_le_mul_right hle (by omega:0<b.sz)
     omega
    ·omega
  refine Un hI (key _ _ _ he h1 h2) (RepD.own_slice i b hb' h3 g q cap hv h1 h2 hsm ?_)
  split<;>simp[Vs]
 ·simp at hsi
theorem sim_slice3 (t e:TypeId)(i:TypeInfo)(x lo hi' mx:Operand)(ρ:Operand->Value)(o:Oper)(ho:o.op=.slice t x (some lo) (some hi') (some mx))(ht:P.underlying t=some (.slice e))(hi:P.info? e=some i)
  (dx d1 d2 d3:DV) (hx:Xo w O μ h (ρ x) dx) (h1:Xo w O μ h (ρ lo) d1) (h2:Xo w O μ h (ρ hi') d2) (h3:Xo w O μ h (ρ mx) d3) (r:Res) (hr:Su [dx,d1,d2,d3]=some r) (hI:HInv w O μ h):
  WO O w μ h n ((execOp ρ o).run P w) r:=by
 unfold Su at hr
 split at hr
 ·rename_i id ver off len k1 a k2 b k3 c heq
  simp only[ZI,and_true]at heq;obtain⟨rfl,rfl,rfl,rfl⟩:=heq
  ·obtain⟨hb,rfl⟩:=Xk hr
   simp only[Zo]at hb
   have e1:=Wb hb.1.1;have e2:=Wb hb.1.2;have e3:=Wb hb.2
   obtain⟨bk,g,q,cap,he,_,_,hcap,_⟩:=hx.UY
   have hsz:(Go.sizeOf e).run P w=.ok i.size w:=by simp[Go.sizeOf,typeInfo,hi]
   have e4:c<=cap:=by omega
   refine XC (v:=.slice (if c=a then some ⟨g,q,none⟩else(some (⟨g,q,none⟩:Addr)).map (·.add (a*i.size))) (b-a) (c-a)) hI ?_ (RepD.p _ _ (.junk _ rfl))
   simp only[execOp,ho]
   refine X1 ?_
   rw[he]
   simp[ZS,h1.Wg,h2.Wg,h3.Wg,Instr.sliceAt,Instr.slice,underlying,ht,Instr.sliceBounds,Instr.sliceBound,asIntOf,hsz,Sem.run_bind,Result.andThen,e1,e2,e4]
 ·simp at hr
theorem sim_lenA (t:TypeId)(m:Nat)(e:TypeId)(x:Operand)(ρ:Operand->Value)(o:Oper)(ts:Array TypeId)(ho:o.op=.call ⟨.builtin .len,#[x],ts⟩)(ht:ts[0]? =some t)(hu:P.underlying t=some (.array m e))(dx:DV)(r:Res)
  (hr:opLenA m [dx]=some r) (hI:HInv w O μ h):WO O w μ h n ((execOp ρ o).run P w) r:=by
 simp only[opLenA,Za]at hr;subst hr
 refine XC (v:=.int .i64 (Int.ofNat m)) hI ?_ (Xo.int _ _)
 simp[execOp,ho,resolve,invoke,builtin,Builtin.len_,ht,underlying,hu,goInt,Sem.run_bind,Result.andThen,go_sem]
theorem XA {α:Type}{b:Bool}{x:Option α}{y:α}(h:(bif b then x else none)=some y):b=true/\x=some y:=by
 cases b<;>simp_all
theorem sim_field (s:TypeId)(fs:Array Field)(f:Nat)(fl:Field)(i:TypeInfo)(agg:Bool)(x:Operand)(ρ:Operand->Value)(o:Oper)(ho:o.op=.field s x f)(hs:P.underlying s=some (.struct fs))(hf:fs[f]? =some fl)
  (ha:aggT P fl.type=some agg) (hi:P.info? fl.type=some i) (dx:DV) (hx:Xo w O μ h (ρ x) dx) (r:Res) (hr:S4 agg i.size fl.offset [dx]=some r) (hI:HInv w O μ h):WO O w μ h n ((execOp ρ o).run P w) r:=by
 unfold S4 at hr
 split at hr
 ·rename_i cs heq
  simp only[ZI,and_true]at heq;subst heq
  obtain⟨_,hr⟩:=XA hr
  cases hv:Uf agg i.size (cs.drop fl.offset)with
  |none=>simp[hv]at hr
  |some v=>
  simp only[hv,Za]at hr;subst hr
  obtain⟨xs,e,hxs⟩:=hx
  obtain⟨u,hu,hr⟩:=part_head (P:=P) fl.type i agg ha hi xs cs hxs fl.offset v hv
  refine XC hI ?_ hr
  simp only[execOp,ho]
  exact X1 (by simp[Instr.field,underlying,hs,hf,e,asAgg,Sem.run_bind,Result.andThen,hu])
 ·simp at hr
theorem sim_indexV (t e:TypeId)(m:Nat)(i:TypeInfo)(agg:Bool)(x ix:Operand)(ρ:Operand->Value)(o:Oper)(ho:o.op=.index t x ix)(ht:P.underlying t=some (.array m e))(ha:aggT P e=some agg)(hi:P.info? e=some i)
  (dx di:DV) (hx:Xo w O μ h (ρ x) dx) (hix:Xo w O μ h (ρ ix) di) (r:Res) (hr:Us m agg i.size [dx,di]=some r) (hI:HInv w O μ h):WO O w μ h n ((execOp ρ o).run P w) r:=by
 unfold Us at hr
 split at hr
 ·rename_i cs k j heq
  simp only[ZI,and_true]at heq;obtain⟨rfl,rfl⟩:=heq
  obtain⟨hb,hr⟩:=XA hr
  rw[Zo]at hb
  have hlt:=TL hb.1
  cases hv:Uf agg i.size (cs.drop (j*i.size))with
  |none=>simp[hv]at hr
  |some v=>
  simp only[hv,Za]at hr;subst hr
  obtain⟨xs,ex,hxs⟩:=hx
  obtain⟨u,hu,hr⟩:=part_head (P:=P) e i agg ha hi xs cs hxs (j*i.size) v hv
  have hsz:(Go.sizeOf e).run P w=.ok i.size w:=by simp[Go.sizeOf,typeInfo,hi]
  refine XC hI ?_ hr
  simp only[execOp,ho]
  exact X1 (by simp[Instr.index,underlying,ht,ex,hix.Wg,asIntOf,Sem.run_bind,Result.andThen,hlt,hsz,hu])
 ·simp at hr
theorem sim_indexStr (t:TypeId)(x ix:Operand)(ρ:Operand->Value)(o:Oper)(ho:o.op=.index t x ix)(ht:P.underlying t=some .string)
  (dx di:DV) (hx:Xo w O μ h (ρ x) dx) (hix:Xo w O μ h (ρ ix) di) (r:Res) (hr:W8 [dx,di]=some r) (hI:HInv w O μ h):WO O w μ h n ((execOp ρ o).run P w) r:=by
 unfold W8 at hr
 split at hr
 ·rename_i bs k j heq
  simp only[ZI,and_true]at heq;obtain⟨rfl,rfl⟩:=heq
  cases hv:bs[j]? with
  |none=>simp[hv]at hr
  |some b=>
  simp only[hv,Za]at hr;subst hr
  obtain⟨s,es,rfl⟩:=hx.inv_str
  rw[Zv]at hv
  cases hb:s.data.toList[j]? with
  |none=>simp[hb]at hv
  |some c=>
  simp only[hb,ZS,Za]at hv;subst hv
  refine XC (v:=.int .u8 c.toNat) hI ?_ (Xo.int _ _)
  simp only[execOp,ho]
  have hs:s[j]? =some c:=by
   rw[Array.getElem?_toList]at hb
   exact hb
  exact X1 (by simp[Instr.index,underlying,ht,es,hix.Wg,asIntOf,Sem.run_bind,Result.andThen,hs])
 ·simp at hr
end
end Go.Ev
namespace Go.Ev
section
variable {P:Program}{O:BS}{w:World}{μ:Nat->Nat}{h:HF}{n:Nat}
theorem isNil_val {v:Value}{l:DL}{b:Bool}(hv:Xo w O μ h v (.one l))(hb:l.isNil=some b):∃p len cap,v=.slice p len cap/\p.isNone=b:=by
 unfold DL.isNil at hb
 split at hb<;>simp only[Za,reduceCtorEq]at hb<;>subst hb
 ·exact⟨_,_,_,hv.inv_nil,rfl⟩
 ·obtain⟨g,q,_,_,_,e,_⟩:=hv.inv_lst;exact⟨_,_,_,e,rfl⟩
 ·obtain⟨_,g,q,_,e,_⟩:=hv.UY;exact⟨_,_,_,e,rfl⟩
theorem run_equalIn_nil (d0:Nat)(t e:TypeId)(p q:Option Addr)(a b c d:Nat)(x y:Bool)(ht:P.underlying t=some (.slice e))(hp:p.isNone=x)(hq:q.isNone=y)(hxy:x=true\/y=true):
  (Op.equalIn (d0+1) t (.slice p a b) (.slice q c d)).run P w=.ok (x&&y) w:=by
 cases p with
 |none=>
  simp at hp;subst hp
  simp[Op.equalIn,underlying,ht,hq]
 |some p=>
  simp at hp;subst hp
  have hy:y=true:=by simpa using hxy
  subst hy
  cases q with
  |some q=>simp at hq
  |none=>simp[Op.equalIn,underlying,ht]
theorem run_equal_nil (t e:TypeId)(p q:Option Addr)(a b c d:Nat)(x y:Bool)(ht:P.underlying t=some (.slice e))(hp:p.isNone=x)(hq:q.isNone=y)(hxy:x=true\/y=true):
  (Op.equal t (.slice p a b) (.slice q c d)).run P w=.ok (x&&y) w:=run_equalIn_nil 9999 t e p q a b c d x y ht hp hq hxy
theorem sim_binNil (neq:Bool)(t u e:TypeId)(x y:Operand)(ρ:Operand->Value)(o:Oper)(ho:o.op=.binOp (if neq then .neq else .eql) t x y u)(ht:P.underlying t=some (.slice e))
  (dx dy:DV) (hx:Xo w O μ h (ρ x) dx) (hy:Xo w O μ h (ρ y) dy) (r:Res) (hr:WX neq [dx,dy]=some r) (hI:HInv w O μ h):
  WO O w μ h n ((execOp ρ o).run P w) r:=by
 cases dx with
 |agg _=>simp[WX]at hr
 |tup _=>simp[WX]at hr
 |one lx=>
 cases dy with
 |agg _=>simp[WX]at hr
 |tup _=>simp[WX]at hr
 |one ly=>
 simp only[WX]at hr
 cases hc:nilCmp neq lx ly with
 |none=>simp[hc]at hr
 |some res=>
 simp only[hc,Za]at hr;subst hr
 have key:∀(a b:Bool),lx.isNil=some a->ly.isNil=some b->(a=true\/b=true)->(execOp ρ o).run P w=.ok (.value (.bool ((a&&b)!=neq))) w:=by
  intro a b ha hb hab
  obtain⟨p,l1,c1,e1,hp⟩:=isNil_val hx ha
  obtain⟨q,l2,c2,e2,hq⟩:=isNil_val hy hb
  simp only[execOp,ho]
  refine X1 ?_
  rw[Sem.run_bind,e1,e2,run_eqGuard_slice]
  have hE:=run_equal_nil (w:=w) t e p q l1 c1 l2 c2 a b ht hp hq hab
  cases neq
  ·simp only[Result.andThen,binOp,Sem.run_bind,hE,if_false,Zs]
   simp[pure]
  ·simp only[Result.andThen,binOp,Sem.run_bind,hE,if_true]
   simp[pure]
 unfold nilCmp at hc
 split at hc
 ·rename_i b ha hb
  simp only[Za]at hc;subst hc
  refine XC hI (key _ _ ha hb (.inl rfl)) ?_
  simpa using Xo.bool _
 ·rename_i ha hb
  simp only[Za]at hc;subst hc
  refine XC hI (key _ _ ha hb (.inr rfl)) ?_
  have :((false&&true)!=neq)=neq:=by cases neq<;>rfl
  rw[this];exact Xo.bool _
 ·simp at hc
theorem eqInts_spec {k:IntKind}:∀{xs ys:List DL} {b:Bool},XO k xs ys=some b->∀{vs us:List Value},All2 (RepD w O μ h) vs xs->All2 (RepD w O μ h) us ys->
  ∃as bs:List Int,vs=as.map (Value.int k)/\us=bs.map (Value.int k)/\as.length=bs.length/\b=(as==bs):=by
 intro xs
 induction xs with
 |nil=>
  intro ys b hb vs us hv hu
  cases ys with
  |nil=>simp[XO]at hb;subst hb;cases hv;cases hu;exact⟨[],[],rfl,rfl,rfl,rfl⟩
  |cons y ys=>simp[XO]at hb
 |cons x xs ih=>
  intro ys b hb vs us hv hu
  cases x with
  |own _ _ _ _=>simp[XO]at hb
  |ptr _ _ _ _=>simp[XO]at hb
  |fn _ _=>simp[XO]at hb
  |mp _=>simp[XO]at hb
  |p l=>
  cases l with
  |bool _=>simp[XO]at hb
  |nilS=>simp[XO]at hb
  |lst _=>simp[XO]at hb
  |ref _=>simp[XO]at hb
  |fn _ _=>simp[XO]at hb
  |str _=>simp[XO]at hb
  |junk=>simp[XO]at hb
  |int k1 a=>
  cases ys with
  |nil=>simp[XO]at hb
  |cons y ys=>
  cases y with
  |own _ _ _ _=>simp[XO]at hb
  |ptr _ _ _ _=>simp[XO]at hb
  |fn _ _=>simp[XO]at hb
  |mp _=>simp[XO]at hb
  |p l=>
  cases l with
  |bool _=>simp[XO]at hb
  |nilS=>simp[XO]at hb
  |lst _=>simp[XO]at hb
  |ref _=>simp[XO]at hb
  |fn _ _=>simp[XO]at hb
  |str _=>simp[XO]at hb
  |junk=>simp[XO]at hb
  |int k2 c=>
  simp only[XO]at hb
  obtain⟨hk,hb2⟩:=XA hb
  clear hb
  rw[Zo,Wx,Wx]at hk
  obtain⟨q1,q2⟩:=hk
  have q1:=q1.symm;subst q1
  have q2:=q2.symm;subst q2
  cases hr:XO k xs ys with
  |none=>simp[hr]at hb2
  |some r=>
  simp only[hr,Za]at hb2
  cases hv with
  |cons hv1 hv2=>cases hu with
   |cons hu1 hu2=>
    obtain⟨as,bs,rfl,rfl,hl,rfl⟩:=ih hr hv2 hu2
    have e1:=Xo.Wg (hv1:Xo w O μ h _ (.one _));have e2:=Xo.Wg (hu1:Xo w O μ h _ (.one _))
    refine⟨a::as,c::bs,by rw[e1];rfl,by rw[e2];rfl,by simp[hl],?_⟩
    rw[<-hb2,eqF_eq];rfl
theorem sim_max (isMin:Bool)(xs:Array Operand)(ρ:Operand->Value)(o:Oper)(ts:Array TypeId)(ho:o.op=.call ⟨.builtin (if isMin then .min else .max),xs,ts⟩)
  (ds:List DV) (hds:All2 (fun y d=>Xo w O μ h (ρ y) d) xs.toList ds) (r:Res) (hr:Uc (if isMin then(fun a b=>ltF b a)else ltF) ds=some r) (hI:HInv w O μ h):WO O w μ h n ((execOp ρ o).run P w) r:=by
 have fold:∀(vs:List Value) (ds:List DV) (k:IntKind) (a:Int) (d:DV),All2 (Xo w O μ h) vs ds->maxD (if isMin then(fun a b=>ltF b a)else ltF) k a ds=some d->
   ∃v,(List.foldlM (if isMin then Builtin.min2 else Builtin.max2) (Value.int k a) vs).run P w=.ok v w/\Xo w O μ h v d:=by
  intro vs ds
  induction ds generalizing vs with
  |nil=>
   intro k a d hv hd
   cases hv
   simp only[maxD,Za]at hd;subst hd
   exact⟨.int k a,by simp,Xo.int _ _⟩
  |cons y ys ih=>
   intro k a d hv hd
   cases y with
   |agg _=>simp[maxD]at hd
   |tup _=>simp[maxD]at hd
   |one l=>
   cases l with
   |own _ _ _ _=>simp[maxD]at hd
   |ptr _ _ _ _=>simp[maxD]at hd
   |fn _ _=>simp[maxD]at hd
   |mp _=>simp[maxD]at hd
   |p l=>
   cases l with
   |bool _=>simp[maxD]at hd
   |nilS=>simp[maxD]at hd
   |lst _=>simp[maxD]at hd
   |ref _=>simp[maxD]at hd
   |fn _ _=>simp[maxD]at hd
   |str _=>simp[maxD]at hd
   |junk=>simp[maxD]at hd
   |int k' b=>
   simp only[maxD]at hd
   obtain⟨hk,hd2⟩:=XA hd
   clear hd
   have hk:=(Wx _ _).1 hk;subst hk
   cases hv with
   |cons h1 h2=>
    obtain⟨v,hrun,hrep⟩:=ih _ k _ d h2 hd2
    refine⟨v,?_,hrep⟩
    have e:=h1.Wg
    rw[List.foldlM_cons,Sem.run_bind,e]
    have step:((if isMin then Builtin.min2 else Builtin.max2) (Value.int k a) (Value.int k b)).run P w=.ok (.int k (bif(if isMin then(fun a b=>ltF b a)else ltF) a b then b else a)) w:=by
     cases isMin<;>simp[Builtin.min2,Builtin.max2,ltF_eq,Bool.cond_decide]
    rw[step]
    exact hrun
 unfold Uc at hr
 split at hr
 ·rename_i k a vs
  generalize hxl:xs.toList=xl at hds
  cases hds with
  |cons h1 h2=>
   rename_i x0 xs0
   cases hm:maxD (if isMin then(fun a b=>ltF b a)else ltF) k a vs with
   |none=>simp[hm]at hr
   |some d=>
   simp only[hm,Za]at hr;subst hr
   have h2':All2 (Xo w O μ h) (xs0.map ρ) vs:=by
    clear hm hxl
    induction h2 with
    |nil=>exact .nil
    |cons q _ ih=>exact .cons q ih
   obtain⟨v,hrun,hrep⟩:=fold _ vs k a d h2' hm
   refine XC hI ?_ hrep
   have hx0:=h1.Wg
   have hargs:(xs.map ρ).toList=Value.int k a::xs0.map ρ:=by rw[Array.toList_map,hxl];simp[hx0]
   cases isMin
   ·simp only[execOp,ho,resolve,Zs,if_false]
    simp only[Sem.run_bind,pure,Sem.run,Result.andThen,invoke,builtin,Builtin.max_,hargs]
    simp only[Zs,if_false]at hrun
    rw[hrun]
   ·simp only[execOp,ho,resolve,if_true]
    simp only[Sem.run_bind,pure,Sem.run,Result.andThen,invoke,builtin,Builtin.min_,hargs]
    simp only[if_true]at hrun
    rw[hrun]
 ·simp at hr
theorem sim_makeFunc (f:Nat)(caps:Array Operand)(ρ:Operand->Value)(o:Oper)(ho:(Nat.blt f bnd=true/\o.op=.makeFunc (.func f) #[] caps)\/(Nat.blt f bnd=false/\o.op=.makeFunc (.func (f-bnd)) caps #[]))
  (ds:List DV) (hds:All2 (fun y d=>Xo w O μ h (ρ y) d) caps.toList ds) (r:Res) (hr:Vj f ds=some r) (hI:HInv w O μ h):WO O w μ h n ((execOp ρ o).run P w) r:=by
 unfold Vj at hr
 cases hm:Xl oneL ds with
 |none=>simp[hm]at hr
 |some ls=>
 simp only[hm,Za]at hr;subst hr
 have key:∀(ys:List Operand) (ds:List DV) (ls:List DL),All2 (fun y d=>Xo w O μ h (ρ y) d) ys ds->Xl oneL ds=some ls->All2 (RepD w O μ h) (ys.map ρ) ls:=by
  intro ys ds ls hh
  induction hh generalizing ls with
  |nil=>intro hl;simp[Xl]at hl;subst hl;exact .nil
  |@cons y d ys ds h1 _ ih=>
   intro hl
   simp only[Xl]at hl
   cases d with
   |agg _=>simp[oneL]at hl
   |tup _=>simp[oneL]at hl
   |one l=>
    simp only[oneL]at hl
    cases hz:Xl oneL ds with
    |none=>simp[hz]at hl
    |some zs=>
     simp only[hz,Za]at hl;subst hl
     exact .cons h1 (ih _ hz)
 have ha:=key _ _ _ hds hm
 have he:(caps.map ρ)=(caps.toList.map ρ).toArray:=by apply Array.ext';simp
 refine XC (v:=fnV f (caps.toList.map ρ)) hI ?_ ?_
 ·rcases ho with⟨hf,ho⟩|⟨hf,ho⟩
  ·simp only[execOp,ho,fnV,hf,cond_true,<-he]
   exact X1 (by simp[Instr.makeFunc])
  ·simp only[execOp,ho,fnV,hf,cond_false,<-he]
   exact X1 (by simp[Instr.makeFunc])
 ·exact RepD.fn f ls _ ha.length fun i d v hd hv=>by
   obtain⟨v',hv',hr⟩:=ha.get i d hd
   rw[hv]at hv';cases hv';exact hr
end
end Go.Ev
namespace Go.Ev
section
variable {P:Program}{O:BS}{w:World}{μ:Nat->Nat}{h:HF}{n:Nat}
theorem SZ (e:TypeId)(k:IntKind)(he:P.underlying e=some (.int k))(as:List Int)(j:Nat)(a:Int)(ha:as[j]? =some a):
  (part e (as.map (Value.int k)).toArray j).run P w=.ok (.int k a) w:=by
 have hagg:(isAgg e).run P w=.ok false w:=by simp[isAgg,underlying,he]
 simp[part,Sem.run_bind,hagg,Result.andThen,ha]
theorem Sn (d:Nat)(e:TypeId)(k:IntKind)(he:P.underlying e=some (.int k))(as bs:List Int)(hl:as.length=bs.length):∀(m s:Nat),s+m=as.length->
  (Op.eqItems (d+1) e 1 (as.map (Value.int k)).toArray (bs.map (Value.int k)).toArray (List.range' s m)).run P w=.ok (as.drop s==bs.drop s) w:=by
 intro m
 induction m with
 |zero=>
  intro s hs
  rw[Zp (by omega),Zp (by omega)]
  simp[Op.eqItems]
 |succ m ih=>
  intro s hs
  have h1:s<as.length:=by omega
  have h2:s<bs.length:=by omega
  rw[List.range'_succ]
  simp only[Op.eqItems,Yd,Sem.run_bind,SZ e k he as s _ (Zf h1),SZ e k he bs s _ (Zf h2),Result.andThen_ok]
  have hq:(Op.equalIn (d+1) e (.int k as[s]) (.int k bs[s])).run P w=.ok (as[s]==bs[s]) w:=by
   simp[Op.equalIn,underlying,he]
  rw[hq]
  simp only[Result.andThen_ok]
  rw[Z1 h1,Z1 h2]
  rw[show((as[s]::as.drop (s+1))==(bs[s]::bs.drop (s+1)))=((as[s]==bs[s])&&(as.drop (s+1)==bs.drop (s+1)))from rfl]
  cases(as[s]==bs[s])
  ·simp only[Bool.not_false,if_true,Bool.false_and,Sem.run_pure]
  ·simp only[Bool.not_true,Zs,if_false,Bool.true_and]
   exact ih (s+1) (by omega)
theorem run_eqGuard_agg (op:BinOp)(t:TypeId)(x y:Operand)(xs ys:Array Value)(hg:P.eqGuardType P.depth t=false):(eqGuard op t x y (.agg xs) (.agg ys)).run P w=.ok () w:=by
 cases op<;>simp[eqGuard,go_sem,hg]
theorem sim_binAgg (neq:Bool)(t u e:TypeId)(k:IntKind)(m:Nat)(i:TypeInfo)(x y:Operand)(ρ:Operand->Value)(o:Oper)(ho:o.op=.binOp (if neq then .neq else .eql) t x y u)(ht:P.underlying t=some (.array m e))
  (he:P.underlying e=some (.int k)) (hi:P.info? e=some i) (hs:i.size=1) (hg:P.eqGuardType P.depth t=false)
  (dx dy:DV) (hx:Xo w O μ h (ρ x) dx) (hy:Xo w O μ h (ρ y) dy) (r:Res) (hr:WY neq k m [dx,dy]=some r) (hI:HInv w O μ h):
  WO O w μ h n ((execOp ρ o).run P w) r:=by
 unfold WY at hr
 split at hr
 ·rename_i xs ys heq
  simp only[ZI,and_true]at heq;obtain⟨rfl,rfl⟩:=heq
  obtain⟨hlen,hr⟩:=XA hr
  have hlen:=Zj hlen
  cases hb:XO k xs ys with
  |none=>simp[hb]at hr
  |some b=>
  simp only[hb,Za]at hr;subst hr
  obtain⟨vs,ex,hvs⟩:=hx
  obtain⟨us,ey,hus⟩:=hy
  obtain⟨as,bs,rfl,rfl,hl,rfl⟩:=eqInts_spec hb hvs hus
  have hal:as.length=m:=by have:=hvs.length;simp at this;omega
  have hc:P.cellsOf e=1:=by simp[Program.cellsOf,hi,hs]
  have hE:(Op.equal t (.agg (as.map (Value.int k)).toArray) (.agg (bs.map (Value.int k)).toArray)).run P w=.ok (as==bs) w:=by
   show(Op.equalIn (9999+1) t _ _).run P w=_
   rw[run_equalIn_array w 9999 _ _ ht hi,hc,List.range_eq_range']
   have:=Sn (P:=P) (w:=w) 9998 e k he as bs hl m 0 (by omega)
   simpa using this
  refine XC (v:=.bool ((as==bs)!=neq)) hI ?_ (Xo.bool _)
  simp only[execOp,ho]
  refine X1 ?_
  rw[Sem.run_bind,ex,ey,run_eqGuard_agg _ _ _ _ _ _ hg]
  cases neq
  ·simp only[Result.andThen,binOp,Sem.run_bind,hE,if_false,Zs]
   simp[pure]
  ·simp only[Result.andThen,binOp,Sem.run_bind,hE,if_true]
   simp[pure]
 ·simp at hr
theorem litL_rep {v:Value}{l:PL}(hl:litL v=some l)(L:BS):RepP w L v l:=by
 unfold litL at hl
 split at hl<;>simp only[Za,reduceCtorEq]at hl<;>subst hl
 ·exact .bool _
 ·exact .int _ _
 ·exact .nilS
 ·exact .str _
 ·exact .junk _ rfl
 ·exact .junk _ rfl
 ·exact .junk _ rfl
theorem Sw {α β:Type}{f:α->Option β}{R:α->β->Prop}(hR:∀x y,f x=some y->R x y):∀{xs:List α} {ys:List β},Xl f xs=some ys->All2 R xs ys
 |[],ys,hm=>by simp[Xl]at hm;subst hm;exact .nil
 |x::xs,ys,hm=>by
  simp only[Xl]at hm
  cases hx:f x with
  |none=>simp[hx]at hm
  |some y=>
   simp only[hx]at hm
   cases hxs:Xl f xs with
   |none=>simp[hxs]at hm
   |some zs=>
    simp only[hxs,Za]at hm;subst hm
    exact .cons (hR _ _ hx) (Sw hR hxs)
theorem VF {t:TypeId}{z:List PL}(hz:zeroOf P t=some z):∃i zv,P.info? t=some i/\i.zero=some zv/\z.length=i.size/\zv.cells.size=i.size/\(∀w':World,(zeroValue t).run P w'=.ok zv w')/\
  ∀(w':World) (O':BS) (μ':Nat->Nat) (h':HF),All2 (RepD w' O' μ' h') zv.cells.toList (z.map .p):=by
 unfold zeroOf at hz
 cases hi:P.info? t with
 |none=>simp[hi]at hz
 |some i=>
 simp only[hi]at hz
 cases hzv:i.zero with
 |none=>simp[hzv]at hz
 |some zv=>
 simp only[hzv]at hz
 cases hm:Xl litL zv.cells.toList with
 |none=>simp[hm]at hz
 |some ls=>
 simp only[hm]at hz
 split at hz<;>simp only[Za,reduceCtorEq]at hz
 subst hz
 rename_i hlen0
 have hlen:ls.length=i.size:=by simpa using hlen0
 clear hlen0
 have hal:All2 (fun v l=>litL v=some l) zv.cells.toList ls:=Sw (fun _ _ e=>e) hm
 refine⟨i,zv,rfl,hzv,hlen,by have:=hal.length;simp at this;omega,fun w'=>by simp[zeroValue,typeInfo,hi,hzv],fun w' O' μ' h'=> ?_⟩
 clear hm hlen
 generalize zv.cells.toList=vs at hal
 induction hal with
 |nil=>exact .nil
 |cons hx _ ih=>exact .cons (.p _ _ (litL_rep hx _)) ih
theorem foldl_set:∀(vs:List Value) (cs:Array Value) (off s:Nat),off+s+vs.length<=cs.size->
  ((vs.zipIdx s).foldl (fun(cs:Array Value) (x:Value×Nat)=>cs.setIfInBounds (off+x.2) x.1) cs).toList=cs.toList.take (off+s)++vs++cs.toList.drop (off+s+vs.length)
 |[],cs,off,s,_=>by simp
 |v::vs,cs,off,s,hle=>by
  simp only[Zi]at hle
  rw[List.zipIdx_cons,List.foldl_cons,foldl_set vs _ off (s+1) (by simp;omega)]
  have e1:off+(s+1)=(off+s)+1:=by omega
  have hlt:off+s<cs.toList.length:=by simp;omega
  rw[Array.toList_setIfInBounds,e1,List.take_succ_eq_append_getElem (by simp;omega),List.take_set_of_le (by omega),List.drop_set_of_lt (by omega)]
  simp
  omega
theorem fill_spec (place:Nat->Option (Nat×Nat)):∀(parts:List (Nat×Value)) (places:List (Nat×Nat)) (ds:List DV) (cells:Array Value) (cs cs':List DL),
  All2 (fun p q=>place p.1=some q) parts places->All2 (fun p d=>Xo w O μ h p.2 d) parts ds->All2 (RepD w O μ h) cells.toList cs->fillD cs places ds=some cs'->
  ∃cells',Instr.fill place cells parts=some cells'/\All2 (RepD w O μ h) cells'.toList cs':=by
 intro parts
 induction parts with
 |nil=>
  intro places ds cells cs cs' h1 h2 hc hf
  cases h1;cases h2
  simp only[fillD,Za]at hf;subst hf
  exact⟨cells,by simp[Instr.fill],hc⟩
 |cons p parts ih=>
  intro places ds cells cs cs' h1 h2 hc hf
  obtain⟨ix,v⟩:=p
  cases h1 with
  |@cons _ q _ places hp h1=>
  cases h2 with
  |@cons _ d _ ds hd h2=>
  obtain⟨off,sz⟩:=q
  simp only at hp hd
  simp only[fillD]at hf
  cases hdc:d.cells with
  |none=>simp[hdc]at hf
  |some dl=>
  simp only[hdc]at hf
  obtain⟨hb,hf⟩:=XA hf
  rw[Zo]at hb
  have hsz:=Zj hb.1
  have hle:=Wb hb.2
  have hv:=hd.cells hdc
  have hvl:=hv.length
  have hcl:=hc.length
  simp only[Yr]at hvl hcl
  have hfold:=foldl_set v.cells.toList cells off 0 (by simp;omega)
  simp only[Yu,Yr]at hfold
  have hnew:All2 (RepD w O μ h) ((v.cells.toList.zipIdx 0).foldl (fun(cs:Array Value) (x:Value×Nat)=>cs.setIfInBounds (off+x.2) x.1) cells).toList (cs.take off++dl++cs.drop (off+sz)):=by
   rw[hfold,<-hsz,<-hvl]
   exact((hc.take off).append hv).append (hc.drop _)
  obtain⟨cells',hfill,hall⟩:=ih places ds _ _ cs' h1 h2 hnew hf
  refine⟨cells',?_,hall⟩
  have hcond:(decide (v.cells.size≠sz)||decide (off+v.cells.size>cells.size))=false:=by simp;omega
  rw[Instr.fill,hp]
  simp only[hcond,Zs,if_false]
  have hz:v.cells.zipIdx=(v.cells.toList.zipIdx 0).toArray:=by apply Array.ext';simp
  rw[hz]
  simpa using hfill
theorem sim_build (t:TypeId)(z:List PL)(places:List (Nat×Nat))(parts:Array (Nat×Operand))(ρ:Operand->Value)(o:Oper)(ho:o.op=.build t parts)(hz:zeroOf P t=some z)
  (hp:(∃fs pl,P.underlying t=some (.struct fs)/\Xl (fun f:Field=>match XQ P f.type with |some s=>some (f.offset,s)|none=>none) fs.toList=some pl/\Xl (fun x:Nat×Operand=>pl[x.1]?) parts.toList=some places)\/
   (∃m e s,P.underlying t=some (.array m e)/\XQ P e=some s/\places=parts.toList.map fun x=>(x.1*s,s)))
  (ds:List DV) (hds:All2 (fun y d=>Xo w O μ h (ρ y.2) d) parts.toList ds) (r:Res) (hr:S6 z places ds=some r) (hI:HInv w O μ h):WO O w μ h n ((execOp ρ o).run P w) r:=by
 unfold S6 at hr
 cases hf:fillD (z.map .p) places ds with
 |none=>simp[hf]at hr
 |some cs=>
 simp only[hf,Za]at hr;subst hr
 obtain⟨i,zv,hi,hzv,hzl,hzs,hzr,hzrep⟩:=VF hz
 have hds':All2 (fun(p:Nat×Value) d=>Xo w O μ h p.2 d) (parts.map fun(x:Nat×Operand)=>(x.1,ρ x.2)).toList ds:=by
  rw[Array.toList_map]
  generalize parts.toList=pl at hds
  clear hp hf
  induction hds with
  |nil=>exact .nil
  |cons q _ ih=>exact .cons q ih
 simp only[execOp,ho]
 rcases hp with⟨fs,pl,ht,hpl,hpp⟩|⟨m,e,s,ht,hs,rfl⟩
 ·have hplaces:All2 (fun(p:Nat×Value) q=>(fun x=>pl.toArray[x]?) p.1=some q) (parts.map fun(x:Nat×Operand)=>(x.1,ρ x.2)).toList places:=by
   rw[Array.toList_map]
   have:=Sw (R:=fun(x:Nat×Operand) q=>pl[x.1]? =some q) (fun _ _ e=>e) hpp
   clear hf hpp hds hds'
   generalize parts.toList=pt at this
   induction this with
   |nil=>exact .nil
   |cons q _ ih=>exact .cons (by simpa using q) ih
  obtain⟨cells',hfill,hall⟩:=fill_spec (fun x=>pl.toArray[x]?) _ _ _ zv.cells _ _ hplaces hds' (hzrep _ _ _ _) hf
  have hmap:(Array.mapM (fun f:Field=>do pure (f.offset,<-Go.sizeOf f.type)) fs:Sem (Array (Nat×Nat))).run P w=.ok pl.toArray w:=by
   have gen:∀(l:List Field) (q:List (Nat×Nat)),Xl (fun f:Field=>match XQ P f.type with |some s=>some (f.offset,s)|none=>none) l=some q->(List.mapM (fun f:Field=>(do pure (f.offset,<-Go.sizeOf f.type):Sem (Nat×Nat))) l).run P w=.ok q w:=by
    intro l
    induction l with
    |nil=>intro q hq;simp[Xl]at hq;subst hq;simp
    |cons f l ih=>
     intro q hq
     simp only[Xl]at hq
     cases hsz:XQ P f.type with
     |none=>simp[hsz]at hq
     |some s=>
      simp only[hsz]at hq
      cases hm:Xl (fun f:Field=>match XQ P f.type with |some s=>some (f.offset,s)|none=>none) l with
      |none=>simp[hm]at hq
      |some q'=>
       simp only[hm,Za]at hq;subst hq
       have hsr:(Go.sizeOf f.type).run P w=.ok s w:=by
        unfold XQ at hsz
        cases hfi:P.info? f.type with
        |none=>simp[hfi]at hsz
        |some fi=>simp only[hfi,ZS,Za]at hsz;subst hsz;simp[Go.sizeOf,typeInfo,hfi]
       simp only[List.mapM_cons,Sem.run_bind,hsr,Result.andThen_ok,ih _ hm,Sem.run_pure]
   rw[Array.mapM_eq_mapM_toList,Sem.run_map]
   rw[gen _ _ hpl]
   rfl
  refine XC (v:=.agg cells') hI (X1 ?_) ⟨cells'.toList,by simp,hall⟩
  simp only[Instr.build,Sem.run_bind,hzr,Result.andThen_ok,run_underlying ht,hmap,hfill,Sem.run_pure]
 ·have hplaces:All2 (fun(p:Nat×Value) q=>(fun x=>some (x*s,s)) p.1=some q) (parts.map fun(x:Nat×Operand)=>(x.1,ρ x.2)).toList (parts.toList.map fun x=>(x.1*s,s)):=by
   rw[Array.toList_map]
   generalize parts.toList=pt
   induction pt with
   |nil=>exact .nil
   |cons q _ ih=>exact .cons rfl ih
  obtain⟨cells',hfill,hall⟩:=fill_spec (fun x=>some (x*s,s)) _ _ _ zv.cells _ _ hplaces hds' (hzrep _ _ _ _) hf
  have hsr:(Go.sizeOf e).run P w=.ok s w:=by
   unfold XQ at hs
   cases hfi:P.info? e with
   |none=>simp[hfi]at hs
   |some fi=>simp only[hfi,ZS,Za]at hs;subst hs;simp[Go.sizeOf,typeInfo,hfi]
  refine XC (v:=.agg cells') hI (X1 ?_) ⟨cells'.toList,by simp,hall⟩
  simp only[Instr.build,Sem.run_bind,hzr,Result.andThen_ok,run_underlying ht,hsr,hfill,Sem.run_pure]
end
end Go.Ev
