/- Every operation but a call: what the model computes stands for what the interpreter computes. (Printed by gen_opsim.py.) -/
import Derived.Test.YtefpgecinlekpaaGreatEvCall
import Derived.Test.YtefpgecinlekpaaGreatEvMaps
namespace Go.Ev
section
variable {P:Program}{O:BS}{w:World}{μ:Nat->Nat}{h:HF}{n:Nat}
theorem dE {c b:Type}{f:c->Option b}{a:List b}(h:Xt f []=some a):a=[]:=by simpa[Xt]using h.symm
theorem map_cons {d i:Type}{f:d->Option i}{x:d}{c:List d}{e:List i}(h:Xt f (x::c)=some e):∃a as,f x=some a/\Xt f c=some as/\e=a::as:=by
 simp only[Xt]at h;cases g:f x with
 |none=>simp[g]at h
 |some a=>
  simp only[g]at h;cases b:Xt f c with
  |none=>simp[b]at h
  |some as=>simp only[b,Za]at h;exact⟨a,as,rfl,rfl,h.symm⟩
theorem fI {c d:Type}{f:c->Option d}{x:c}{b:List d}(h:Xt f [x]=some b):∃a,f x=some a/\b=[a]:=by
 obtain⟨a,as,e,g,rfl⟩:=map_cons h;exact⟨a,e,by rw[dE g]⟩
theorem au {d e:Type}{f:d->Option e}{x y:d}{c:List e}(h:Xt f [x,y]=some c):∃a b,f x=some a/\f y=some b/\c=[a,b]:=by
 obtain⟨a,as,g,i,rfl⟩:=map_cons h;obtain⟨b,j,rfl⟩:=fI i;exact⟨a,b,g,j,rfl⟩
theorem Ga {e g:Type}{f:e->Option g}{x y z:e}{d:List g}(h:Xt f [x,y,z]=some d):∃a b c,f x=some a/\f y=some b/\f z=some c/\d=[a,b,c]:=by
 obtain⟨a,as,i,j,rfl⟩:=map_cons h;obtain⟨b,c,k,l,rfl⟩:=au j;exact⟨a,b,c,i,k,l,rfl⟩
theorem UN {n:Type}(g:n->Operand)(T:List (Nat×DV))(l:Operand->Value)(a:∀x m d,XA x=some m->m.eval T=some d->XC w O μ h (l x) d):
  ∀(c:List n) (e:List W8) (b:List DV),Xt (fun p=>XA (g p)) c=some e->Xt (W8.eval T) e=some b->XF (fun p d=>XC w O μ h (l (g p)) d) c b
 |[],e,b,h1,h2=>by rw[dE h1]at h2;rw[dE h2];exact .nil
 |p::c,e,b,h1,h2=>by
  obtain⟨x,k,q,j,rfl⟩:=map_cons h1;obtain⟨d,f,o,i,rfl⟩:=map_cons h2;exact .cons (a _ _ _ q o) (UN g T l a c k f j i)
theorem WM {t:TypeId}{s:Nat}(a:Wq P t=some s):∃i,P.info? t=some i/\i.size=s:=by
 unfold Wq at a;cases b:P.info? t with
 |none=>simp[b]at a
 |some i=>exact⟨i,rfl,by simpa[b]using a⟩
theorem Nj {t:TypeId}{s:Nat}(a:aR P t=some s):∃i,P.info? t=some i/\i.bytes=s:=by
 unfold aR at a;cases b:P.info? t with
 |none=>simp[b]at a
 |some i=>exact⟨i,rfl,by simpa[b]using a⟩
theorem dt (E:Xb)(s:Nat)(b:Builtin)(f:Array TypeId)(args:Array Operand)(o:Oper)(g:o.op=.call ⟨.builtin b,args,f⟩)(V:aX)(a:XQ P b f=some V)(C:Operand->Value)
  (D:List DV) (B:XF (fun p d=>XC w O μ h (C p) d) args.toList D) (r:W5) (c:Wc E s V D h n=some r) (Z:r.al≠[]->h n=none) (I:X4 w O μ h):VI O w μ h n ((execOp C o).run P w) r:=by
 have one:∀d,D=[d]->∃x,args=#[x]/\XC w O μ h (C x) d:=by
  intro d k;subst k;generalize S:args.toList=l at B;cases B with
  |cons H N=>cases N;exact⟨_,by apply Array.ext';simpa using S,H⟩
 have M:∀v A,D=[v,A]->∃x y,args=#[x,y]/\XC w O μ h (C x) v/\XC w O μ h (C y) A:=by
  intro v A k;subst k;generalize S:args.toList=l at B;cases B with
  |cons H N=>cases N with
   |cons X Y=>cases Y;exact⟨_,_,by apply Array.ext';simpa using S,H,X⟩
 cases b with
 |len=>
  simp only[XQ]at a;cases K:f[0]? with
  |none=>simp[K]at a
  |some t=>
  simp only[K]at a;split at a<;>simp only[Za,reduceCtorEq]at a<;>subst a
  ·rename_i e F;have k:∃d,D=[d]:=by
    simp only[Wc]at c;unfold R6 at c;split at c<;>simp at c<;>exact⟨_,rfl⟩
   obtain⟨d,rfl⟩:=k;obtain⟨x,rfl,G⟩:=one d rfl;exact AU t x C o f g e K F d G r c I
  ·rename_i m e F;have k:∃d,D=[d]:=by
    simp only[Wc]at c;unfold Ns at c;split at c<;>simp at c;exact⟨_,rfl⟩
   obtain⟨d,rfl⟩:=k;obtain⟨x,rfl,G⟩:=one d rfl;exact xu t m e x C o f g K F d r c I
  ·rename_i kt e F;have k:∃d,D=[d]:=by
    simp only[Wc]at c;unfold Tb at c;split at c
    ·exact⟨_,rfl⟩
    ·simp at c
   obtain⟨d,rfl⟩:=k;obtain⟨x,rfl,G⟩:=one d rfl;exact qf t kt e x C o f g K F d G r c I
 |append=>
  simp only[XQ]at a;split at a
  ·rename_i t u H;split at a
   ·rename_i q;have q:t=u:=by simpa using q
    subst q;split at a
    ·rename_i e F;split at a
     ·rename_i z W L Q;split at a<;>simp only[Za,reduceCtorEq]at a;rename_i J;subst a;obtain⟨i,R,rfl⟩:=Nj Q;have k:∃v A,D=[v,A]:=by
       simp only[Wc]at c;unfold W3 at c;split at c
       ·exact⟨_,_,rfl⟩
       ·simp at c
      obtain⟨v,A,rfl⟩:=k;obtain⟨x,y,rfl,G,U⟩:=M v A rfl;have j:f=#[t,t]:=by apply Array.ext';simpa using H
      subst j;exact qk t e z i s x y C o g F L R J v A G U r c Z I
     ·simp at a
    ·simp at a
   ·simp at a
  ·simp at a
 |copy=>
  simp only[XQ]at a;split at a
  ·rename_i t u H;split at a
   ·rename_i q;have q:t=u:=by simpa using q
    subst q;split at a
    ·rename_i e F;split at a<;>simp only[Za,reduceCtorEq]at a;rename_i m L;subst a;obtain⟨i,R,T⟩:=WM L;have k:∃v A,D=[v,A]:=by
      simp only[Wc]at c;unfold Pg at c;split at c
      ·exact⟨_,_,rfl⟩
      ·simp at c
     obtain⟨v,A,rfl⟩:=k;obtain⟨x,y,rfl,G,U⟩:=M v A rfl;have j:f=#[t,t]:=by apply Array.ext';simpa using H
     subst j;exact xw t e i s x y C o g F R v A G U r (by rw[T];exact c) I
    ·simp at a
   ·simp at a
  ·simp at a
 |max=>simp only[XQ,Za]at a;subst a;exact sk false args C o f g D B r c I
 |min=>simp only[XQ,Za]at a;subst a;exact sk true args C o f g D B r c I
 |cap=>simp[XQ]at a
 |clear=>
  simp only[XQ]at a;split at a
  ·rename_i t H;split at a
   ·rename_i e F;split at a
    ·rename_i z L;split at a<;>simp only[Za,reduceCtorEq]at a;rename_i J;subst a;have k:∃d,D=[d]:=by
      simp only[Wc]at c;unfold R7 at c;split at c
      ·exact⟨_,rfl⟩
      ·simp at c
     obtain⟨d,rfl⟩:=k;obtain⟨x,rfl,G⟩:=one d rfl;have j:f=#[t]:=by apply Array.ext';simpa using H
     subst j;exact uG t e z s x C o g F L J d G r c I
    ·simp at a
   ·simp at a
  ·simp at a
 |close=>simp[XQ]at a
 |complex=>simp[XQ]at a
 |delete=>simp[XQ]at a
 |imag=>simp[XQ]at a
 |make=>simp[XQ]at a
 |new=>simp[XQ]at a
 |panic=>simp[XQ]at a
 |print=>simp[XQ]at a
 |println=>simp[XQ]at a
 |real=>simp[XQ]at a
 |recover=>simp[XQ]at a
 |unsafeAdd=>simp[XQ]at a
 |unsafeSlice=>simp[XQ]at a
 |unsafeSliceData=>simp[XQ]at a
 |unsafeString=>simp[XQ]at a
 |unsafeStringData=>simp[XQ]at a
 |unsafeSizeof=>simp[XQ]at a
 |unsafeAlignof=>simp[XQ]at a
 |unsafeOffsetof=>simp[XQ]at a
theorem zG (E:Xb)(a0:Nat){o:Oper}{a9:aX}{a4:List W8}(g:XT P o.op=some (a9,a4))(T:List (Nat×DV))(F:Operand->Value)
  (v:∀x xo d,XA x=some xo->xo.eval T=some d->XC w O μ h (F x) d) (Z:List DV) (I:Xt (W8.eval T) a4=some Z) (r:W5) (D:Wc E a0 a9 Z h n=some r)
  (c5:∀f,a9≠.call f) (b5:a9≠.U3) (hn:r.al≠[]->h n=none) (H:X4 w O μ h):VI O w μ h n ((execOp F o).run P w) r:=by
 cases j:o.op with
 |move x=>
  simp only[XT,j]at g;cases A:XA x with
  |none=>simp[A]at g
  |some R=>
  simp only[A,Za,Zn]at g;obtain⟨rfl,rfl⟩:=g;obtain⟨d,Q,rfl⟩:=fI I;exact mP x F o (.inl j) d (v _ _ _ A Q) r D H
 |assign x=>
  simp only[XT,j]at g;cases A:XA x with
  |none=>simp[A]at g
  |some R=>
  simp only[A,Za,Zn]at g;obtain⟨rfl,rfl⟩:=g;obtain⟨d,Q,rfl⟩:=fI I;exact mP x F o (.inr j) d (v _ _ _ A Q) r D H
 |nilCheck x=>
  simp only[XT,j]at g;cases A:XA x with
  |none=>simp[A]at g
  |some R=>
  simp only[A,Za,Zn]at g;obtain⟨rfl,rfl⟩:=g;obtain⟨d,Q,rfl⟩:=fI I;exact kC x F o j d (v _ _ _ A Q) r D H
 |pick c x y=>
  simp only[XT,j]at g;cases b2:XA c with
  |none=>simp[b2]at g
  |some c'=>
  cases A:XA x with
  |none=>simp[A]at g
  |some R=>
  cases X:XA y with
  |none=>simp[X]at g
  |some y'=>
  simp only[b2,A,X,Za,Zn]at g;obtain⟨rfl,rfl⟩:=g;obtain⟨K,L,d3,B,C,a2,rfl⟩:=Ga I;exact xr c x y F o j K L d3 (v _ _ _ b2 B) (v _ _ _ A C) (v _ _ _ X a2) r D H
 |box t x=>
  simp only[XT,j]at g;cases A:XA x with
  |none=>simp[A]at g
  |some R=>
  simp only[A,Za,Zn]at g;obtain⟨rfl,rfl⟩:=g;obtain⟨d,Q,rfl⟩:=fI I;have S:r.al≠[]:=by simp only[Wc,ao]at D;split at D<;>simp at D;subst D;simp
  exact AV t x F o j d (v _ _ _ A Q) r D (hn S) H
 |alloc t=>
  simp only[XT,j]at g;cases hz:zeroOf P t with
  |none=>simp[hz]at g
  |some z=>
  simp only[hz,Za,Zn]at g;obtain⟨rfl,rfl⟩:=g;obtain rfl:=dE I;have S:r.al≠[]:=by simp only[Wc,R8,Za]at D;subst D;simp
  exact uH t z F o j hz r D (hn S) H
 |load t x=>
  simp only[XT,j]at g;cases ha:cr P t with
  |none=>simp[ha]at g
  |some ag=>
  cases J:Wq P t with
  |none=>simp[J]at g
  |some s=>
  cases A:XA x with
  |none=>simp[A]at g
  |some R=>
  simp only[ha,J,A,Za,Zn]at g;obtain⟨rfl,rfl⟩:=g;obtain⟨d,Q,rfl⟩:=fI I;obtain⟨i,M,rfl⟩:=WM J;exact xt t i ag x F o j ha M d (v _ _ _ A Q) r D H
 |store t x y=>
  simp only[XT,j]at g;cases J:Wq P t with
  |none=>simp[J]at g
  |some s=>
  cases A:XA x with
  |none=>simp[A]at g
  |some R=>
  cases X:XA y with
  |none=>simp[X]at g
  |some y'=>
  simp only[J,A,X,Za,Zn]at g;obtain⟨rfl,rfl⟩:=g;obtain⟨K,L,B,C,rfl⟩:=au I;obtain⟨i,M,rfl⟩:=WM J;exact uD t i a0 x y F o j M K L (v _ _ _ A B) (v _ _ _ X C) r D H
 |unOp op t x=>
  simp only[XT,j]at g;cases A:XA x with
  |none=>simp[A]at g
  |some R=>
  simp only[A,Za,Zn]at g;obtain⟨rfl,rfl⟩:=g;obtain⟨d,Q,rfl⟩:=fI I;exact Dc op t x F o j d (v _ _ _ A Q) r D H
 |extract x k=>
  simp only[XT,j]at g;cases A:XA x with
  |none=>simp[A]at g
  |some R=>
  simp only[A,Za,Zn]at g;obtain⟨rfl,rfl⟩:=g;obtain⟨d,Q,rfl⟩:=fI I;exact mR k x F o j d (v _ _ _ A Q) r D H
 |convert s d x=>
  simp only[XT,j]at g;split at g<;>simp only[Za,Zn,reduceCtorEq]at g;rename_i u k R G hk A;obtain⟨rfl,rfl⟩:=g;obtain⟨dd,Q,rfl⟩:=fI I;exact xx s d k x F o j ⟨u,G⟩ hk dd (v _ _ _ A Q) r D H
 |fieldAddr s x f=>
  simp only[XT,j]at g;split at g
  ·rename_i fs G;cases hf:fs[f]? with
   |none=>simp[hf]at g
   |some fl=>
   simp only[hf]at g;split at g<;>simp only[Za,Zn,reduceCtorEq]at g;rename_i k R J A;obtain⟨rfl,rfl⟩:=g;obtain⟨d,Q,rfl⟩:=fI I;obtain⟨i,M,a7⟩:=WM J;exact iw s fs f fl i x F o j G hf M (by omega) d (v _ _ _ A Q) r D H
  ·simp at g
 |field s x f=>
  simp only[XT,j]at g;split at g
  ·rename_i fs G;cases hf:fs[f]? with
   |none=>simp[hf]at g
   |some fl=>
   simp only[hf]at g;split at g<;>simp only[Za,Zn,reduceCtorEq]at g;rename_i ag sz R ha J A;obtain⟨rfl,rfl⟩:=g;obtain⟨d,Q,rfl⟩:=fI I;obtain⟨i,M,rfl⟩:=WM J;exact uF s fs f fl i ag x F o j G hf ha M d (v _ _ _ A Q) r D H
  ·simp at g
 |indexAddr t x i=>
  simp only[XT,j]at g;split at g
  ·rename_i e R i' G A M;cases J:Wq P e with
   |none=>simp[J]at g
   |some s=>
   simp only[J,Za,Zn]at g;obtain⟨rfl,rfl⟩:=g;obtain⟨K,L,B,C,rfl⟩:=au I;obtain⟨ti,U,rfl⟩:=WM J;exact qh t e ti x i F o j G U K L (v _ _ _ A B) (v _ _ _ M C) r D H
  ·rename_i m e R i' G A M;cases J:Wq P e with
   |none=>simp[J]at g
   |some s=>
   simp only[J,Za,Zn]at g;obtain⟨rfl,rfl⟩:=g;obtain⟨K,L,B,C,rfl⟩:=au I;obtain⟨ti,U,rfl⟩:=WM J;exact qj t e m ti x i F o j G U K L (v _ _ _ A B) (v _ _ _ M C) r D H
  ·simp at g
 |index t x i=>
  simp only[XT,j]at g;split at g
  ·rename_i R i' G A M;simp only[Za,Zn]at g;obtain⟨rfl,rfl⟩:=g;obtain⟨K,L,B,C,rfl⟩:=au I;exact kD t x i F o j G K L (v _ _ _ A B) (v _ _ _ M C) r D H
  ·rename_i m e R i' G A M;split at g<;>simp only[Za,Zn,reduceCtorEq]at g;rename_i ag s ha J;obtain⟨rfl,rfl⟩:=g;obtain⟨K,L,B,C,rfl⟩:=au I;obtain⟨ti,U,rfl⟩:=WM J;exact qg t e m ti ag x i F o j G ha U K L (v _ _ _ A B) (v _ _ _ M C) r D H
  ·simp at g
 |build t parts=>
  simp only[XT,j]at g;split at g
  ·rename_i z xs hz V;split at g
   ·rename_i fs G;split at g
    ·rename_i a8 c6;split at g<;>simp only[Za,Zn,reduceCtorEq]at g;rename_i pl c7;obtain⟨rfl,rfl⟩:=g;exact iX t z pl parts F o j hz (.inl ⟨fs,a8,G,c6,c7⟩) Z (UN (fun p:Nat×Operand=>p.2) T F v _ _ _ V I) r D H
    ·simp at g
   ·rename_i m e G;cases J:Wq P e with
    |none=>simp[J]at g
    |some s=>
    simp only[J,Za,Zn]at g;obtain⟨rfl,rfl⟩:=g;exact iX t z _ parts F o j hz (.inr ⟨m,e,s,G,J,rfl⟩) Z (UN (fun p:Nat×Operand=>p.2) T F v _ _ _ V I) r D H
   ·simp at g
  ·simp at g
 |buildSlice t c8 parts=>
  simp only[XT,j]at g;split at g
  ·rename_i e G;split at g
   ·rename_i z xs hz V;split at g<;>simp only[Za,Zn,reduceCtorEq]at g;rename_i N;rw[Zp]at N;obtain⟨rfl,rfl⟩:=g;have S:r.al≠[]:=by simp only[Wc,VR]at D;split at D<;>simp at D;subst D;simp
    exact eP t e z c8 parts F o j G hz (by simpa using N.1) (WS N.2) Z (UN (fun p:Nat×Operand=>p.2) T F v _ _ _ V I) r D (hn S) H
   ·simp at g
  ·simp at g
 |makeSlice t l c=>
  simp only[XT,j]at g;split at g
  ·rename_i e G;split at g
   ·rename_i z b l' c' hz hb hl c1;split at g<;>simp only[Za,Zn,reduceCtorEq]at g;rename_i N;obtain⟨rfl,rfl⟩:=g;obtain⟨K,L,B,C,rfl⟩:=au I;obtain⟨i,M,rfl⟩:=Nj hb;have S:r.al≠[]:=by
     simp only[Wc]at D;unfold Ub at D;split at D
     ·obtain⟨_,rfl⟩:=Xw D;simp
     ·simp at D
    exact im t e z i l c F o j G hz M N K L (v _ _ _ hl B) (v _ _ _ c1 C) r D (hn S) H
   ·simp at g
  ·simp at g
 |slice t x lo M mx=>
  cases mx with
  |some mx=>
   cases lo with
   |none=>simp[XT,j]at g
   |some lo=>
   cases M with
   |none=>simp[XT,j]at g
   |some M=>
   simp only[XT,j]at g;split at g
   ·rename_i e G;split at g
    ·rename_i R l' h' m' s A hl Y hm J;simp only[Za,Zn]at g;obtain⟨rfl,rfl⟩:=g;obtain⟨d,b9,Q,b0,rfl⟩:=map_cons I;obtain⟨K,c9,B,c0,rfl⟩:=map_cons b0;obtain⟨L,d3,C,a2,rfl⟩:=au c0;obtain⟨ti,U,rfl⟩:=WM J;exact qd t e ti x lo M mx F o j G U d K L d3 (v _ _ _ A Q) (v _ _ _ hl B) (v _ _ _ Y C) (v _ _ _ hm a2) r D H
    ·simp at g
   ·simp at g
  |none=>
  simp only[XT,j]at g;split at g
  ·rename_i e G;split at g
   ·rename_i R l' h' s A hl Y J;simp only[Za,Zn]at g;obtain⟨rfl,rfl⟩:=g;obtain⟨d,b8,Q,b4,rfl⟩:=map_cons I;obtain⟨ti,U,rfl⟩:=WM J;have c4:Xt (fun p=>XA p) (lo.toList++M.toList)=some (l'++h'):=by
     cases lo with
     |none=>
      simp only[TF,Za]at hl;subst hl;cases M with
      |none=>simp only[TF,Za]at Y;subst Y;rfl
      |some hv=>
       simp only[TF]at Y;cases hq:XA hv with
       |none=>simp[hq]at Y
       |some q=>simp only[hq,Za]at Y;subst Y;simp[Xt,hq]
     |some lv=>
      simp only[TF]at hl;cases a6:XA lv with
      |none=>simp[a6]at hl
      |some q1=>
      simp only[a6,Za]at hl;subst hl;cases M with
      |none=>simp only[TF,Za]at Y;subst Y;simp[Xt,a6]
      |some hv=>
       simp only[TF]at Y;cases hq:XA hv with
       |none=>simp[hq]at Y
       |some q=>simp only[hq,Za]at Y;subst Y;simp[Xt,hq,a6]
    exact uE t e ti x lo M F o j G U d b8 (v _ _ _ A Q) (UN (fun p=>p) T F v _ _ _ c4 b4) r D H
   ·simp at g
  ·simp at g
 |makeFunc fn first a1=>
  cases fn with
  |func f=>
   simp only[XT,j]at g;cases a3:first.isEmpty with
   |false=>
    simp only[a3,Zz,if_false]at g;cases W:a1.isEmpty with
    |false=>simp[W]at g
    |true=>
    simp only[W,if_true]at g;split at g<;>simp only[Za,Zn,reduceCtorEq]at g;rename_i cs b3;obtain⟨rfl,rfl⟩:=g;have hf:a1=#[]:=by simpa using W
    subst hf;have hb:Nat.blt (f+NL) NL=false:=by
     cases hb:Nat.blt (f+NL) NL with
     |false=>rfl
     |true=>have:=RS hb;omega
    exact NX (f+NL) first F o (.inr ⟨hb,by rw[Yb];exact j⟩) Z (UN (fun p=>p) T F v _ _ _ b3 I) r D H
   |true=>
   simp only[a3,if_true]at g;split at g
   ·rename_i cs b3;split at g<;>simp only[Za,Zn,reduceCtorEq]at g;rename_i hb;obtain⟨rfl,rfl⟩:=g;have hf:first=#[]:=by simpa using a3
    subst hf;exact NX f a1 F o (.inl ⟨hb,j⟩) Z (UN (fun p=>p) T F v _ _ _ b3 I) r D H
   ·simp at g
  |method _=>simp[XT,j]at g
  |methodOf _ _=>simp[XT,j]at g
  |via _ _ _ _=>simp[XT,j]at g
  |yield _=>simp[XT,j]at g
 |binOp op t x y u=>
  simp only[XT,j]at g;split at g
  ·rename_i R y' A X;split at g
   ·rename_i k G;simp only[Za,Zn]at g;obtain⟨rfl,rfl⟩:=g;obtain⟨K,L,B,C,rfl⟩:=au I;exact AW op t u x y F o j K L (v _ _ _ A B) (v _ _ _ X C) r D H
   ·rename_i G;split at g<;>simp only[Za,Zn,reduceCtorEq]at g<;>obtain⟨rfl,rfl⟩:=g<;>obtain⟨K,L,B,C,rfl⟩:=au I
    ·exact mS false t u x y F o j G K L (v _ _ _ A B) (v _ _ _ X C) r D H
    ·exact mS true t u x y F o j G K L (v _ _ _ A B) (v _ _ _ X C) r D H
   ·rename_i e G;split at g<;>simp only[Za,Zn,reduceCtorEq]at g<;>obtain⟨rfl,rfl⟩:=g<;>obtain⟨K,L,B,C,rfl⟩:=au I
    ·exact eQ false t u e x y F o j G K L (v _ _ _ A B) (v _ _ _ X C) r D H
    ·exact eQ true t u e x y F o j G K L (v _ _ _ A B) (v _ _ _ X C) r D H
   ·rename_i m e G;split at g
    ·rename_i k hk J hg;obtain⟨i,M,a7⟩:=WM J;split at g<;>simp only[Za,Zn,reduceCtorEq]at g<;>obtain⟨rfl,rfl⟩:=g<;>obtain⟨K,L,B,C,rfl⟩:=au I
     ·exact eR false t u e k m i x y F o j G hk M a7 hg K L (v _ _ _ A B) (v _ _ _ X C) r D H
     ·exact eR true t u e k m i x y F o j G hk M a7 hg K L (v _ _ _ A B) (v _ _ _ X C) r D H
    ·simp at g
   ·simp at g
  ·simp at g
 |call c=>
  obtain⟨a5,args,b7⟩:=c;simp only[XT,j]at g;cases V:QS args with
  |none=>simp[V]at g
  |some xs=>
  simp only[V]at g;have b1:∀Z,Xt (W8.eval T) xs=some Z->XF (fun p d=>XC w O μ h (F p) d) args.toList Z:=fun Z c2=>UN (fun p=>p) T F v _ _ _ V c2
  cases a5 with
  |invoke _ _=>simp at g
  |value x=>
   cases x with
   |func f=>simp only[Za,Zn]at g;exact absurd g.1.symm (c5 f)
   |tmp q=>simp only[XA,Za,Zn]at g;exact absurd g.1.symm b5
   |const q=>
    simp only at g;cases hq:XA (.const q)with
    |none=>simp[hq]at g
    |some q'=>simp only[hq,Za,Zn]at g;exact absurd g.1.symm b5
   |global q=>simp[XA]at g
  |builtin b=>
   simp only at g;cases hb:XQ P b b7 with
   |none=>simp[hb]at g
   |some op=>
   simp only[hb,Za,Zn]at g;obtain⟨rfl,rfl⟩:=g;have ha:=b1 Z I;exact dt E a0 b b7 args o j op hb F Z ha r D hn H
 |makeMap t rv=>
  cases rv with
  |some _=>simp[XT,j]at g
  |none=>
  simp only[XT,j]at g;split at g
  ·split at g<;>simp only[Za,Zn,reduceCtorEq]at g;obtain⟨rfl,rfl⟩:=g;rw[dE I]at D;have S:r.al≠[]:=by
    simp only[Wc,TA,Za]at D;subst D;simp
   exact mQ t _ _ F o j r D (hn S) H
  ·simp at g
 |lookup t x i ok=>
  simp only[XT,j]at g;split at g
  ·rename_i kt e G;split at g<;>simp only[Za,Zn,reduceCtorEq]at g;rename_i m kk a z R i' hk b6 hz A M;obtain⟨rfl,rfl⟩:=g;obtain⟨K,L,B,C,rfl⟩:=au I;obtain⟨te,ti,g1,g2,g3,g4⟩:=cS hk;exact qe t kt e te m kk ti a ok z x i F o j G g1 g2 g3 g4 b6 hz K L (v _ _ _ A B) (v _ _ _ M C) r D H
  ·simp at g
 |mapUpdate t m k x=>
  simp only[XT,j]at g;split at g
  ·rename_i kt e G;split at g<;>simp only[Za,Zn,reduceCtorEq]at g;rename_i ml kk a sz m' k' R hk b6 a7 hm c3 A;obtain⟨rfl,rfl⟩:=g;obtain⟨K,b9,B,b0,rfl⟩:=map_cons I;obtain⟨L,d3,C,a2,rfl⟩:=au b0;obtain⟨te,ti,g1,g2,g3,g4⟩:=cS hk;exact il t kt e te ml sz kk ti a m k x F o j G g1 g2 g3 g4 K L d3 (v _ _ _ hm B) (v _ _ _ c3 C) (v _ _ _ A a2) r D H
  ·simp at g
 |insert _ _ _ _=>simp[XT,j]at g
 |ready _=>simp[XT,j]at g
 |waits _=>simp[XT,j]at g
 |sliceToArrayPointer _ _=>simp[XT,j]at g
 |makeInterface _ _=>simp[XT,j]at g
 |makeChan _ _=>simp[XT,j]at g
 |mapEntry _ _ _=>simp[XT,j]at g
 |entryStore _ _ _ _=>simp[XT,j]at g
 |range _ _=>simp[XT,j]at g
 |next _ _=>simp[XT,j]at g
 |entry _=>simp[XT,j]at g
 |typeAssert _ _ _ _=>simp[XT,j]at g
 |go _=>simp[XT,j]at g
 |defer _=>simp[XT,j]at g
 |panic _=>simp[XT,j]at g
 |send _ _=>simp[XT,j]at g
 |recv _ _ _=>simp[XT,j]at g
 |select _ _=>simp[XT,j]at g
end
end Go.Ev
