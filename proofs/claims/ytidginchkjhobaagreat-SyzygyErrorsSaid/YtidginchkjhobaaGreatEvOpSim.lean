/- Every operation but a call: what the model computes stands for what the interpreter computes. (Printed by gen_opsim.py.) -/
import Derived.Test.YtidginchkjhobaaGreatEvCall
import Derived.Test.YtidginchkjhobaaGreatEvMaps
namespace Go.Ev
section
variable {P:Program}{O:BS}{w:World}{μ:Nat->Nat}{h:HF}{n:Nat}
theorem dF {c b:Type}{f:c->Option b}{a:List b}(h:Xt f []=some a):a=[]:=by simpa[Xt]using h.symm
theorem map_cons {d i:Type}{f:d->Option i}{x:d}{c:List d}{e:List i}(h:Xt f (x::c)=some e):∃a as,f x=some a/\Xt f c=some as/\e=a::as:=by
 simp only[Xt]at h;cases g:f x with
 |none=>simp[g]at h
 |some a=>
  simp only[g]at h;cases b:Xt f c with
  |none=>simp[b]at h
  |some as=>simp only[b,Za]at h;exact⟨a,as,rfl,rfl,h.symm⟩
theorem fM {c d:Type}{f:c->Option d}{x:c}{b:List d}(h:Xt f [x]=some b):∃a,f x=some a/\b=[a]:=by
 obtain⟨a,as,e,g,rfl⟩:=map_cons h;exact⟨a,e,by rw[dF g]⟩
theorem ak {d e:Type}{f:d->Option e}{x y:d}{c:List e}(h:Xt f [x,y]=some c):∃a b,f x=some a/\f y=some b/\c=[a,b]:=by
 obtain⟨a,as,g,i,rfl⟩:=map_cons h;obtain⟨b,j,rfl⟩:=fM i;exact⟨a,b,g,j,rfl⟩
theorem FT {e g:Type}{f:e->Option g}{x y z:e}{d:List g}(h:Xt f [x,y,z]=some d):∃a b c,f x=some a/\f y=some b/\f z=some c/\d=[a,b,c]:=by
 obtain⟨a,as,i,j,rfl⟩:=map_cons h;obtain⟨b,c,k,l,rfl⟩:=ak j;exact⟨a,b,c,i,k,l,rfl⟩
theorem UR {n:Type}(g:n->Operand)(T:List (Nat×DV))(l:Operand->Value)(a:∀x m d,Xy x=some m->m.eval T=some d->XB w O μ h (l x) d):
  ∀(c:List n) (e:List W8) (b:List DV),Xt (fun p=>Xy (g p)) c=some e->Xt (W8.eval T) e=some b->XF (fun p d=>XB w O μ h (l (g p)) d) c b
 |[],e,b,h1,h2=>by rw[dF h1]at h2;rw[dF h2];exact .nil
 |p::c,e,b,h1,h2=>by
  obtain⟨x,k,q,j,rfl⟩:=map_cons h1;obtain⟨d,f,o,i,rfl⟩:=map_cons h2;exact .cons (a _ _ _ q o) (UR g T l a c k f j i)
theorem WN {t:TypeId}{s:Nat}(a:Wn P t=some s):∃i,P.info? t=some i/\i.size=s:=by
 unfold Wn at a;cases b:P.info? t with
 |none=>simp[b]at a
 |some i=>exact⟨i,rfl,by simpa[b]using a⟩
theorem O5 {t:TypeId}{s:Nat}(a:aK P t=some s):∃i,P.info? t=some i/\i.bytes=s:=by
 unfold aK at a;cases b:P.info? t with
 |none=>simp[b]at a
 |some i=>exact⟨i,rfl,by simpa[b]using a⟩
theorem dw (E:Xa)(s:Nat)(b:Builtin)(f:Array TypeId)(args:Array Operand)(o:Oper)(g:o.op=.call ⟨.builtin b,args,f⟩)(W:aT)(a:XO P b f=some W)(C:Operand->Value)
  (D:List DV) (B:XF (fun p d=>XB w O μ h (C p) d) args.toList D) (r:Vc) (c:X8 E s W D h n=some r) (hn:r.al≠[]->h n=none) (J:X0 w O μ h):VF O w μ h n ((execOp C o).run P w) r:=by
 have I:∀d,D=[d]->∃x,args=#[x]/\XB w O μ h (C x) d:=by
  intro d k;subst k;generalize T:args.toList=l at B;cases B with
  |cons H Q=>cases Q;exact⟨_,by apply Array.ext';simpa using T,H⟩
 have N:∀v A,D=[v,A]->∃x y,args=#[x,y]/\XB w O μ h (C x) v/\XB w O μ h (C y) A:=by
  intro v A k;subst k;generalize T:args.toList=l at B;cases B with
  |cons H Q=>cases Q with
   |cons Y Z=>cases Z;exact⟨_,_,by apply Array.ext';simpa using T,H,Y⟩
 cases b with
 |len=>
  simp only[XO]at a;cases L:f[0]? with
  |none=>simp[L]at a
  |some t=>
  simp only[L]at a;split at a<;>simp only[Za,reduceCtorEq]at a<;>subst a
  ·rename_i e F;have k:∃d,D=[d]:=by
    simp only[X8]at c;unfold Qn at c;split at c<;>simp at c<;>exact⟨_,rfl⟩
   obtain⟨d,rfl⟩:=k;obtain⟨x,rfl,G⟩:=I d rfl;exact AS t x C o f g e L F d G r c J
  ·rename_i m e F;have k:∃d,D=[d]:=by
    simp only[X8]at c;unfold Nd at c;split at c<;>simp at c;exact⟨_,rfl⟩
   obtain⟨d,rfl⟩:=k;obtain⟨x,rfl,G⟩:=I d rfl;exact xI t m e x C o f g L F d r c J
  ·rename_i kt e F;have k:∃d,D=[d]:=by
    simp only[X8]at c;unfold Tb at c;split at c
    ·exact⟨_,rfl⟩
    ·simp at c
   obtain⟨d,rfl⟩:=k;obtain⟨x,rfl,G⟩:=I d rfl;exact qz t kt e x C o f g L F d G r c J
 |append=>
  simp only[XO]at a;split at a
  ·rename_i t u H;split at a
   ·rename_i q;have q:t=u:=by simpa using q
    subst q;split at a
    ·rename_i e F;split at a
     ·rename_i z X M R;split at a<;>simp only[Za,reduceCtorEq]at a;rename_i K;subst a;obtain⟨i,S,rfl⟩:=O5 R;have k:∃v A,D=[v,A]:=by
       simp only[X8]at c;unfold W6 at c;split at c
       ·exact⟨_,_,rfl⟩
       ·simp at c
      obtain⟨v,A,rfl⟩:=k;obtain⟨x,y,rfl,G,V⟩:=N v A rfl;have j:f=#[t,t]:=by apply Array.ext';simpa using H
      subst j;exact qE t e z i s x y C o g F M S K v A G V r c hn J
     ·simp at a
    ·simp at a
   ·simp at a
  ·simp at a
 |copy=>
  simp only[XO]at a;split at a
  ·rename_i t u H;split at a
   ·rename_i q;have q:t=u:=by simpa using q
    subst q;split at a
    ·rename_i e F;split at a<;>simp only[Za,reduceCtorEq]at a;rename_i m M;subst a;obtain⟨i,S,U⟩:=WN M;have k:∃v A,D=[v,A]:=by
      simp only[X8]at c;unfold QZ at c;split at c
      ·exact⟨_,_,rfl⟩
      ·simp at c
     obtain⟨v,A,rfl⟩:=k;obtain⟨x,y,rfl,G,V⟩:=N v A rfl;have j:f=#[t,t]:=by apply Array.ext';simpa using H
     subst j;exact xJ t e i s x y C o g F S v A G V r (by rw[U];exact c) J
    ·simp at a
   ·simp at a
  ·simp at a
 |max=>simp only[XO,Za]at a;subst a;exact sS false args C o f g D B r c J
 |min=>simp only[XO,Za]at a;subst a;exact sS true args C o f g D B r c J
 |cap=>simp[XO]at a
 |clear=>
  simp only[XO]at a;split at a
  ·rename_i t H;split at a
   ·rename_i e F;split at a
    ·rename_i z M;split at a<;>simp only[Za,reduceCtorEq]at a;rename_i K;subst a;have k:∃d,D=[d]:=by
      simp only[X8]at c;unfold RU at c;split at c
      ·exact⟨_,rfl⟩
      ·simp at c
     obtain⟨d,rfl⟩:=k;obtain⟨x,rfl,G⟩:=I d rfl;have j:f=#[t]:=by apply Array.ext';simpa using H
     subst j;exact uV t e z s x C o g F M K d G r c J
    ·simp at a
   ·simp at a
  ·simp at a
 |close=>simp[XO]at a
 |complex=>simp[XO]at a
 |delete=>simp[XO]at a
 |imag=>simp[XO]at a
 |make=>simp[XO]at a
 |new=>simp[XO]at a
 |panic=>simp[XO]at a
 |print=>simp[XO]at a
 |println=>simp[XO]at a
 |real=>simp[XO]at a
 |recover=>simp[XO]at a
 |unsafeAdd=>simp[XO]at a
 |unsafeSlice=>simp[XO]at a
 |unsafeSliceData=>simp[XO]at a
 |unsafeString=>simp[XO]at a
 |unsafeStringData=>simp[XO]at a
 |unsafeSizeof=>simp[XO]at a
 |unsafeAlignof=>simp[XO]at a
 |unsafeOffsetof=>simp[XO]at a
theorem zH (E:Xa)(a0:Nat){o:Oper}{a9:aT}{a4:List W8}(g:XR P o.op=some (a9,a4))(T:List (Nat×DV))(F:Operand->Value)
  (v:∀x xo d,Xy x=some xo->xo.eval T=some d->XB w O μ h (F x) d) (ds:List DV) (I:Xt (W8.eval T) a4=some ds) (r:Vc) (D:X8 E a0 a9 ds h n=some r)
  (c5:∀f,a9≠.call f) (b5:a9≠.TF) (hn:r.al≠[]->h n=none) (H:X0 w O μ h):VF O w μ h n ((execOp F o).run P w) r:=by
 cases j:o.op with
 |move x=>
  simp only[XR,j]at g;cases A:Xy x with
  |none=>simp[A]at g
  |some R=>
  simp only[A,Za,Zo]at g;obtain⟨rfl,rfl⟩:=g;obtain⟨d,Q,rfl⟩:=fM I;exact mY x F o (.inl j) d (v _ _ _ A Q) r D H
 |assign x=>
  simp only[XR,j]at g;cases A:Xy x with
  |none=>simp[A]at g
  |some R=>
  simp only[A,Za,Zo]at g;obtain⟨rfl,rfl⟩:=g;obtain⟨d,Q,rfl⟩:=fM I;exact mY x F o (.inr j) d (v _ _ _ A Q) r D H
 |nilCheck x=>
  simp only[XR,j]at g;cases A:Xy x with
  |none=>simp[A]at g
  |some R=>
  simp only[A,Za,Zo]at g;obtain⟨rfl,rfl⟩:=g;obtain⟨d,Q,rfl⟩:=fM I;exact kF x F o j d (v _ _ _ A Q) r D H
 |pick c x y=>
  simp only[XR,j]at g;cases b2:Xy c with
  |none=>simp[b2]at g
  |some c'=>
  cases A:Xy x with
  |none=>simp[A]at g
  |some R=>
  cases Y:Xy y with
  |none=>simp[Y]at g
  |some y'=>
  simp only[b2,A,Y,Za,Zo]at g;obtain⟨rfl,rfl⟩:=g;obtain⟨K,L,d3,B,C,a2,rfl⟩:=FT I;exact xG c x y F o j K L d3 (v _ _ _ b2 B) (v _ _ _ A C) (v _ _ _ Y a2) r D H
 |box t x=>
  simp only[XR,j]at g;cases A:Xy x with
  |none=>simp[A]at g
  |some R=>
  simp only[A,Za,Zo]at g;obtain⟨rfl,rfl⟩:=g;obtain⟨d,Q,rfl⟩:=fM I;have S:r.al≠[]:=by simp only[X8,aj]at D;split at D<;>simp at D;subst D;simp
  exact AT t x F o j d (v _ _ _ A Q) r D (hn S) H
 |alloc t=>
  simp only[XR,j]at g;cases hz:zeroOf P t with
  |none=>simp[hz]at g
  |some z=>
  simp only[hz,Za,Zo]at g;obtain⟨rfl,rfl⟩:=g;obtain rfl:=dF I;have S:r.al≠[]:=by simp only[X8,RV,Za]at D;subst D;simp
  exact uW t z F o j hz r D (hn S) H
 |load t x=>
  simp only[XR,j]at g;cases ha:cw P t with
  |none=>simp[ha]at g
  |some ag=>
  cases J:Wn P t with
  |none=>simp[J]at g
  |some s=>
  cases A:Xy x with
  |none=>simp[A]at g
  |some R=>
  simp only[ha,J,A,Za,Zo]at g;obtain⟨rfl,rfl⟩:=g;obtain⟨d,Q,rfl⟩:=fM I;obtain⟨i,M,rfl⟩:=WN J;exact xH t i ag x F o j ha M d (v _ _ _ A Q) r D H
 |store t x y=>
  simp only[XR,j]at g;cases J:Wn P t with
  |none=>simp[J]at g
  |some s=>
  cases A:Xy x with
  |none=>simp[A]at g
  |some R=>
  cases Y:Xy y with
  |none=>simp[Y]at g
  |some y'=>
  simp only[J,A,Y,Za,Zo]at g;obtain⟨rfl,rfl⟩:=g;obtain⟨K,L,B,C,rfl⟩:=ak I;obtain⟨i,M,rfl⟩:=WN J;exact uS t i a0 x y F o j M K L (v _ _ _ A B) (v _ _ _ Y C) r D H
 |unOp op t x=>
  simp only[XR,j]at g;cases A:Xy x with
  |none=>simp[A]at g
  |some R=>
  simp only[A,Za,Zo]at g;obtain⟨rfl,rfl⟩:=g;obtain⟨d,Q,rfl⟩:=fM I;exact CX op t x F o j d (v _ _ _ A Q) r D H
 |extract x k=>
  simp only[XR,j]at g;cases A:Xy x with
  |none=>simp[A]at g
  |some R=>
  simp only[A,Za,Zo]at g;obtain⟨rfl,rfl⟩:=g;obtain⟨d,Q,rfl⟩:=fM I;exact na k x F o j d (v _ _ _ A Q) r D H
 |convert s d x=>
  simp only[XR,j]at g;split at g<;>simp only[Za,Zo,reduceCtorEq]at g;rename_i u k R G hk A;obtain⟨rfl,rfl⟩:=g;obtain⟨dd,Q,rfl⟩:=fM I;exact xK s d k x F o j ⟨u,G⟩ hk dd (v _ _ _ A Q) r D H
 |fieldAddr s x f=>
  simp only[XR,j]at g;split at g
  ·rename_i fs G;cases hf:fs[f]? with
   |none=>simp[hf]at g
   |some fl=>
   simp only[hf]at g;split at g<;>simp only[Za,Zo,reduceCtorEq]at g;rename_i k R J A;obtain⟨rfl,rfl⟩:=g;obtain⟨d,Q,rfl⟩:=fM I;obtain⟨i,M,a7⟩:=WN J;exact ij s fs f fl i x F o j G hf M (by omega) d (v _ _ _ A Q) r D H
  ·simp at g
 |field s x f=>
  simp only[XR,j]at g;split at g
  ·rename_i fs G;cases hf:fs[f]? with
   |none=>simp[hf]at g
   |some fl=>
   simp only[hf]at g;split at g<;>simp only[Za,Zo,reduceCtorEq]at g;rename_i ag sz R ha J A;obtain⟨rfl,rfl⟩:=g;obtain⟨d,Q,rfl⟩:=fM I;obtain⟨i,M,rfl⟩:=WN J;exact uU s fs f fl i ag x F o j G hf ha M d (v _ _ _ A Q) r D H
  ·simp at g
 |indexAddr t x i=>
  simp only[XR,j]at g;split at g
  ·rename_i e R i' G A M;cases J:Wn P e with
   |none=>simp[J]at g
   |some s=>
   simp only[J,Za,Zo]at g;obtain⟨rfl,rfl⟩:=g;obtain⟨K,L,B,C,rfl⟩:=ak I;obtain⟨ti,U,rfl⟩:=WN J;exact qC t e ti x i F o j G U K L (v _ _ _ A B) (v _ _ _ M C) r D H
  ·rename_i m e R i' G A M;cases J:Wn P e with
   |none=>simp[J]at g
   |some s=>
   simp only[J,Za,Zo]at g;obtain⟨rfl,rfl⟩:=g;obtain⟨K,L,B,C,rfl⟩:=ak I;obtain⟨ti,U,rfl⟩:=WN J;exact qD t e m ti x i F o j G U K L (v _ _ _ A B) (v _ _ _ M C) r D H
  ·simp at g
 |index t x i=>
  simp only[XR,j]at g;split at g
  ·rename_i R i' G A M;simp only[Za,Zo]at g;obtain⟨rfl,rfl⟩:=g;obtain⟨K,L,B,C,rfl⟩:=ak I;exact kG t x i F o j G K L (v _ _ _ A B) (v _ _ _ M C) r D H
  ·rename_i m e R i' G A M;split at g<;>simp only[Za,Zo,reduceCtorEq]at g;rename_i ag s ha J;obtain⟨rfl,rfl⟩:=g;obtain⟨K,L,B,C,rfl⟩:=ak I;obtain⟨ti,U,rfl⟩:=WN J;exact qA t e m ti ag x i F o j G ha U K L (v _ _ _ A B) (v _ _ _ M C) r D H
  ·simp at g
 |build t V=>
  simp only[XR,j]at g;split at g
  ·rename_i z xs hz W;split at g
   ·rename_i fs G;split at g
    ·rename_i a8 c6;split at g<;>simp only[Za,Zo,reduceCtorEq]at g;rename_i pl c7;obtain⟨rfl,rfl⟩:=g;exact iY t z pl V F o j hz (.inl ⟨fs,a8,G,c6,c7⟩) ds (UR (fun p:Nat×Operand=>p.2) T F v _ _ _ W I) r D H
    ·simp at g
   ·rename_i m e G;cases J:Wn P e with
    |none=>simp[J]at g
    |some s=>
    simp only[J,Za,Zo]at g;obtain⟨rfl,rfl⟩:=g;exact iY t z _ V F o j hz (.inr ⟨m,e,s,G,J,rfl⟩) ds (UR (fun p:Nat×Operand=>p.2) T F v _ _ _ W I) r D H
   ·simp at g
  ·simp at g
 |buildSlice t c8 V=>
  simp only[XR,j]at g;split at g
  ·rename_i e G;split at g
   ·rename_i z xs hz W;split at g<;>simp only[Za,Zo,reduceCtorEq]at g;rename_i N;rw[Zs]at N;obtain⟨rfl,rfl⟩:=g;have S:r.al≠[]:=by simp only[X8,VN]at D;split at D<;>simp at D;subst D;simp
    exact eS t e z c8 V F o j G hz (by simpa using N.1) (WS N.2) ds (UR (fun p:Nat×Operand=>p.2) T F v _ _ _ W I) r D (hn S) H
   ·simp at g
  ·simp at g
 |makeSlice t l c=>
  simp only[XR,j]at g;split at g
  ·rename_i e G;split at g
   ·rename_i z b l' c' hz hb hl c1;split at g<;>simp only[Za,Zo,reduceCtorEq]at g;rename_i N;obtain⟨rfl,rfl⟩:=g;obtain⟨K,L,B,C,rfl⟩:=ak I;obtain⟨i,M,rfl⟩:=O5 hb;have S:r.al≠[]:=by
     simp only[X8]at D;unfold V5 at D;split at D
     ·obtain⟨_,rfl⟩:=Xv D;simp
     ·simp at D
    exact ig t e z i l c F o j G hz M N K L (v _ _ _ hl B) (v _ _ _ c1 C) r D (hn S) H
   ·simp at g
  ·simp at g
 |slice t x lo M mx=>
  cases mx with
  |some mx=>
   cases lo with
   |none=>simp[XR,j]at g
   |some lo=>
   cases M with
   |none=>simp[XR,j]at g
   |some M=>
   simp only[XR,j]at g;split at g
   ·rename_i e G;split at g
    ·rename_i R l' h' m' s A hl Z hm J;simp only[Za,Zo]at g;obtain⟨rfl,rfl⟩:=g;obtain⟨d,b9,Q,b0,rfl⟩:=map_cons I;obtain⟨K,c9,B,c0,rfl⟩:=map_cons b0;obtain⟨L,d3,C,a2,rfl⟩:=ak c0;obtain⟨ti,U,rfl⟩:=WN J;exact qx t e ti x lo M mx F o j G U d K L d3 (v _ _ _ A Q) (v _ _ _ hl B) (v _ _ _ Z C) (v _ _ _ hm a2) r D H
    ·simp at g
   ·simp at g
  |none=>
  simp only[XR,j]at g;split at g
  ·rename_i e G;split at g
   ·rename_i R l' h' s A hl Z J;simp only[Za,Zo]at g;obtain⟨rfl,rfl⟩:=g;obtain⟨d,b8,Q,b4,rfl⟩:=map_cons I;obtain⟨ti,U,rfl⟩:=WN J;have c4:Xt (fun p=>Xy p) (lo.toList++M.toList)=some (l'++h'):=by
     cases lo with
     |none=>
      simp only[TG,Za]at hl;subst hl;cases M with
      |none=>simp only[TG,Za]at Z;subst Z;rfl
      |some hv=>
       simp only[TG]at Z;cases hq:Xy hv with
       |none=>simp[hq]at Z
       |some q=>simp only[hq,Za]at Z;subst Z;simp[Xt,hq]
     |some lv=>
      simp only[TG]at hl;cases a6:Xy lv with
      |none=>simp[a6]at hl
      |some q1=>
      simp only[a6,Za]at hl;subst hl;cases M with
      |none=>simp only[TG,Za]at Z;subst Z;simp[Xt,a6]
      |some hv=>
       simp only[TG]at Z;cases hq:Xy hv with
       |none=>simp[hq]at Z
       |some q=>simp only[hq,Za]at Z;subst Z;simp[Xt,hq,a6]
    exact uT t e ti x lo M F o j G U d b8 (v _ _ _ A Q) (UR (fun p=>p) T F v _ _ _ c4 b4) r D H
   ·simp at g
  ·simp at g
 |makeFunc fn first a1=>
  cases fn with
  |func f=>
   simp only[XR,j]at g;cases a3:first.isEmpty with
   |false=>
    simp only[a3,Zz,if_false]at g;cases X:a1.isEmpty with
    |false=>simp[X]at g
    |true=>
    simp only[X,if_true]at g;split at g<;>simp only[Za,Zo,reduceCtorEq]at g;rename_i cs b3;obtain⟨rfl,rfl⟩:=g;have hf:a1=#[]:=by simpa using X
    subst hf;have hb:Nat.blt (f+NA) NA=false:=by
     cases hb:Nat.blt (f+NA) NA with
     |false=>rfl
     |true=>have:=RJ hb;omega
    exact NT (f+NA) first F o (.inr ⟨hb,by rw[Yl];exact j⟩) ds (UR (fun p=>p) T F v _ _ _ b3 I) r D H
   |true=>
   simp only[a3,if_true]at g;split at g
   ·rename_i cs b3;split at g<;>simp only[Za,Zo,reduceCtorEq]at g;rename_i hb;obtain⟨rfl,rfl⟩:=g;have hf:first=#[]:=by simpa using a3
    subst hf;exact NT f a1 F o (.inl ⟨hb,j⟩) ds (UR (fun p=>p) T F v _ _ _ b3 I) r D H
   ·simp at g
  |method _=>simp[XR,j]at g
  |methodOf _ _=>simp[XR,j]at g
  |via _ _ _ _=>simp[XR,j]at g
  |yield _=>simp[XR,j]at g
 |binOp op t x y u=>
  simp only[XR,j]at g;split at g
  ·rename_i R y' A Y;split at g
   ·rename_i k G;simp only[Za,Zo]at g;obtain⟨rfl,rfl⟩:=g;obtain⟨K,L,B,C,rfl⟩:=ak I;exact AU op t u x y F o j K L (v _ _ _ A B) (v _ _ _ Y C) r D H
   ·rename_i G;split at g<;>simp only[Za,Zo,reduceCtorEq]at g<;>obtain⟨rfl,rfl⟩:=g<;>obtain⟨K,L,B,C,rfl⟩:=ak I
    ·exact nb false t u x y F o j G K L (v _ _ _ A B) (v _ _ _ Y C) r D H
    ·exact nb true t u x y F o j G K L (v _ _ _ A B) (v _ _ _ Y C) r D H
   ·rename_i e G;split at g<;>simp only[Za,Zo,reduceCtorEq]at g<;>obtain⟨rfl,rfl⟩:=g<;>obtain⟨K,L,B,C,rfl⟩:=ak I
    ·exact eT false t u e x y F o j G K L (v _ _ _ A B) (v _ _ _ Y C) r D H
    ·exact eT true t u e x y F o j G K L (v _ _ _ A B) (v _ _ _ Y C) r D H
   ·rename_i m e G;split at g
    ·rename_i k hk J hg;obtain⟨i,M,a7⟩:=WN J;split at g<;>simp only[Za,Zo,reduceCtorEq]at g<;>obtain⟨rfl,rfl⟩:=g<;>obtain⟨K,L,B,C,rfl⟩:=ak I
     ·exact eU false t u e k m i x y F o j G hk M a7 hg K L (v _ _ _ A B) (v _ _ _ Y C) r D H
     ·exact eU true t u e k m i x y F o j G hk M a7 hg K L (v _ _ _ A B) (v _ _ _ Y C) r D H
    ·simp at g
   ·simp at g
  ·simp at g
 |call c=>
  obtain⟨a5,args,b7⟩:=c;simp only[XR,j]at g;cases W:QA args with
  |none=>simp[W]at g
  |some xs=>
  simp only[W]at g;have b1:∀ds,Xt (W8.eval T) xs=some ds->XF (fun p d=>XB w O μ h (F p) d) args.toList ds:=fun ds c2=>UR (fun p=>p) T F v _ _ _ W c2
  cases a5 with
  |invoke _ _=>simp at g
  |value x=>
   cases x with
   |func f=>simp only[Za,Zo]at g;exact absurd g.1.symm (c5 f)
   |tmp q=>simp only[Xy,Za,Zo]at g;exact absurd g.1.symm b5
   |const q=>
    simp only at g;cases hq:Xy (.const q)with
    |none=>simp[hq]at g
    |some q'=>simp only[hq,Za,Zo]at g;exact absurd g.1.symm b5
   |global q=>simp[Xy]at g
  |builtin b=>
   simp only at g;cases hb:XO P b b7 with
   |none=>simp[hb]at g
   |some op=>
   simp only[hb,Za,Zo]at g;obtain⟨rfl,rfl⟩:=g;have ha:=b1 ds I;exact dw E a0 b b7 args o j op hb F ds ha r D hn H
 |makeMap t rv=>
  cases rv with
  |some _=>simp[XR,j]at g
  |none=>
  simp only[XR,j]at g;split at g
  ·split at g<;>simp only[Za,Zo,reduceCtorEq]at g;obtain⟨rfl,rfl⟩:=g;rw[dF I]at D;have S:r.al≠[]:=by
    simp only[X8,TA,Za]at D;subst D;simp
   exact mZ t _ _ F o j r D (hn S) H
  ·simp at g
 |lookup t x i ok=>
  simp only[XR,j]at g;split at g
  ·rename_i kt e G;split at g<;>simp only[Za,Zo,reduceCtorEq]at g;rename_i m kk a z R i' hk b6 hz A M;obtain⟨rfl,rfl⟩:=g;obtain⟨K,L,B,C,rfl⟩:=ak I;obtain⟨te,ti,g1,g2,g3,g4⟩:=cU hk;exact qy t kt e te m kk ti a ok z x i F o j G g1 g2 g3 g4 b6 hz K L (v _ _ _ A B) (v _ _ _ M C) r D H
  ·simp at g
 |mapUpdate t m k x=>
  simp only[XR,j]at g;split at g
  ·rename_i kt e G;split at g<;>simp only[Za,Zo,reduceCtorEq]at g;rename_i ml kk a sz m' k' R hk b6 a7 hm c3 A;obtain⟨rfl,rfl⟩:=g;obtain⟨K,b9,B,b0,rfl⟩:=map_cons I;obtain⟨L,d3,C,a2,rfl⟩:=ak b0;obtain⟨te,ti,g1,g2,g3,g4⟩:=cU hk;exact ie t kt e te ml sz kk ti a m k x F o j G g1 g2 g3 g4 K L d3 (v _ _ _ hm B) (v _ _ _ c3 C) (v _ _ _ A a2) r D H
  ·simp at g
 |insert _ _ _ _=>simp[XR,j]at g
 |ready _=>simp[XR,j]at g
 |waits _=>simp[XR,j]at g
 |sliceToArrayPointer _ _=>simp[XR,j]at g
 |makeInterface _ _=>simp[XR,j]at g
 |makeChan _ _=>simp[XR,j]at g
 |mapEntry _ _ _=>simp[XR,j]at g
 |entryStore _ _ _ _=>simp[XR,j]at g
 |range _ _=>simp[XR,j]at g
 |next _ _=>simp[XR,j]at g
 |entry _=>simp[XR,j]at g
 |typeAssert _ _ _ _=>simp[XR,j]at g
 |go _=>simp[XR,j]at g
 |defer _=>simp[XR,j]at g
 |panic _=>simp[XR,j]at g
 |send _ _=>simp[XR,j]at g
 |recv _ _ _=>simp[XR,j]at g
 |select _ _=>simp[XR,j]at g
end
end Go.Ev
