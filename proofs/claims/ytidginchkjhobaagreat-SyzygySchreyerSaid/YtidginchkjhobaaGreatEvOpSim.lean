/- Every operation but a call: what the model computes stands for what the interpreter computes. (Printed by gen_opsim.py.) -/
import Derived.Test.YtidginchkjhobaaGreatEvCall
import Derived.Test.YtidginchkjhobaaGreatEvMaps
namespace Go.Ev
section
variable {P:Program}{O:BS}{w:World}{μ:Nat->Nat}{h:HF}{n:Nat}
theorem fG {c b:Type}{f:c->Option b}{a:List b}(h:Xv f []=some a):a=[]:=by simpa[Xv]using h.symm
theorem map_cons {d i:Type}{f:d->Option i}{x:d}{c:List d}{e:List i}(h:Xv f (x::c)=some e):∃a as,f x=some a/\Xv f c=some as/\e=a::as:=by
 simp only[Xv]at h;cases g:f x with
 |none=>simp[g]at h
 |some a=>
  simp only[g]at h;cases b:Xv f c with
  |none=>simp[b]at h
  |some as=>simp only[b,Za]at h;exact⟨a,as,rfl,rfl,h.symm⟩
theorem ja {c d:Type}{f:c->Option d}{x:c}{b:List d}(h:Xv f [x]=some b):∃a,f x=some a/\b=[a]:=by
 obtain⟨a,as,e,g,rfl⟩:=map_cons h;exact⟨a,e,by rw[fG g]⟩
theorem bN {d e:Type}{f:d->Option e}{x y:d}{c:List e}(h:Xv f [x,y]=some c):∃a b,f x=some a/\f y=some b/\c=[a,b]:=by
 obtain⟨a,as,g,i,rfl⟩:=map_cons h;obtain⟨b,j,rfl⟩:=ja i;exact⟨a,b,g,j,rfl⟩
theorem KO {e g:Type}{f:e->Option g}{x y z:e}{d:List g}(h:Xv f [x,y,z]=some d):∃a b c,f x=some a/\f y=some b/\f z=some c/\d=[a,b,c]:=by
 obtain⟨a,as,i,j,rfl⟩:=map_cons h;obtain⟨b,c,k,l,rfl⟩:=bN j;exact⟨a,b,c,i,k,l,rfl⟩
theorem Tb {n:Type}(g:n->Operand)(T:List (Nat×DV))(l:Operand->Value)(a:∀x m d,Xz x=some m->m.eval T=some d->XA w O μ h (l x) d):
  ∀(c:List n) (e:List Vs) (b:X'),Xv (fun p=>Xz (g p)) c=some e->Xv (Vs.eval T) e=some b->XB (fun p d=>XA w O μ h (l (g p)) d) c b
 |[],e,b,h1,h2=>by rw[fG h1]at h2;rw[fG h2];exact .nil
 |p::c,e,b,h1,h2=>by
  obtain⟨x,k,q,j,rfl⟩:=map_cons h1;obtain⟨d,f,o,i,rfl⟩:=map_cons h2;exact .cons (a _ _ _ q o) (Tb g T l a c k f j i)
theorem WU {t:TypeId}{s:Nat}(a:Wq P t=some s):∃i,P.info? t=some i/\i.size=s:=by
 unfold Wq at a;cases b:P.info? t with
 |none=>simp[b]at a
 |some i=>exact⟨i,rfl,by simpa[b]using a⟩
theorem N5 {t:TypeId}{s:Nat}(a:ct P t=some s):∃i,P.info? t=some i/\i.bytes=s:=by
 unfold ct at a;cases b:P.info? t with
 |none=>simp[b]at a
 |some i=>exact⟨i,rfl,by simpa[b]using a⟩
theorem fp (E:Xa)(s:Nat)(b:Builtin)(f:Array TypeId)(args:Array Operand)(o:Oper)(g:o.op=.call ⟨.builtin b,args,f⟩)(W:cH)(a:XP P b f=some W)(C:Operand->Value)
  (D:X') (B:XB (fun p d=>XA w O μ h (C p) d) args.toList D) (r:Va) (c:We E s W D h n=some r) (hn:r.al≠[]->h n=none) (J:X3 w O μ h):V0 O w μ h n ((execOp C o).run P w) r:=by
 have I:∀d,D=[d]->∃x,args=#[x]/\XA w O μ h (C x) d:=by
  intro d k;subst k;generalize T:args.toList=l at B;cases B with
  |cons H Q=>cases Q;exact⟨_,by apply Array.ext';simpa using T,H⟩
 have N:∀v A,D=[v,A]->∃x y,args=#[x,y]/\XA w O μ h (C x) v/\XA w O μ h (C y) A:=by
  intro v A k;subst k;generalize T:args.toList=l at B;cases B with
  |cons H Q=>cases Q with
   |cons Y Z=>cases Z;exact⟨_,_,by apply Array.ext';simpa using T,H,Y⟩
 cases b with
 |len=>
  simp only[XP]at a;cases L:f[0]? with
  |none=>simp[L]at a
  |some t=>
  simp only[L]at a;split at a<;>simp only[Za,reduceCtorEq]at a<;>subst a
  ·rename_i e F;have k:∃d,D=[d]:=by
    simp only[We]at c;unfold Oa at c;split at c<;>simp at c<;>exact⟨_,rfl⟩
   obtain⟨d,rfl⟩:=k;obtain⟨x,rfl,G⟩:=I d rfl;exact Eh t x C o f g e L F d G r c J
  ·rename_i m e F;have k:∃d,D=[d]:=by
    simp only[We]at c;unfold aq at c;split at c<;>simp at c;exact⟨_,rfl⟩
   obtain⟨d,rfl⟩:=k;obtain⟨x,rfl,G⟩:=I d rfl;exact A8 t m e x C o f g L F d r c J
  ·rename_i kt e F;have k:∃d,D=[d]:=by
    simp only[We]at c;unfold TE at c;split at c
    ·exact⟨_,rfl⟩
    ·simp at c
   obtain⟨d,rfl⟩:=k;obtain⟨x,rfl,G⟩:=I d rfl;exact ug t kt e x C o f g L F d G r c J
 |append=>
  simp only[XP]at a;split at a
  ·rename_i t u H;split at a
   ·rename_i q;have q:t=u:=by simpa using q
    subst q;split at a
    ·rename_i e F;split at a
     ·rename_i z X M R;split at a<;>simp only[Za,reduceCtorEq]at a;rename_i K;subst a;obtain⟨i,S,rfl⟩:=N5 R;have k:∃v A,D=[v,A]:=by
       simp only[We]at c;unfold Vh at c;split at c
       ·exact⟨_,_,rfl⟩
       ·simp at c
      obtain⟨v,A,rfl⟩:=k;obtain⟨x,y,rfl,G,V⟩:=N v A rfl;have j:f=#[t,t]:=by apply Array.ext';simpa using H
      subst j;exact uk t e z i s x y C o g F M S K v A G V r c hn J
     ·simp at a
    ·simp at a
   ·simp at a
  ·simp at a
 |copy=>
  simp only[XP]at a;split at a
  ·rename_i t u H;split at a
   ·rename_i q;have q:t=u:=by simpa using q
    subst q;split at a
    ·rename_i e F;split at a<;>simp only[Za,reduceCtorEq]at a;rename_i m M;subst a;obtain⟨i,S,U⟩:=WU M;have k:∃v A,D=[v,A]:=by
      simp only[We]at c;unfold PT at c;split at c
      ·exact⟨_,_,rfl⟩
      ·simp at c
     obtain⟨v,A,rfl⟩:=k;obtain⟨x,y,rfl,G,V⟩:=N v A rfl;have j:f=#[t,t]:=by apply Array.ext';simpa using H
     subst j;exact A9 t e i s x y C o g F S v A G V r (by rw[U];exact c) J
    ·simp at a
   ·simp at a
  ·simp at a
 |max=>simp only[XP,Za]at a;subst a;exact wk false args C o f g D B r c J
 |min=>simp only[XP,Za]at a;subst a;exact wk true args C o f g D B r c J
 |cap=>simp[XP]at a
 |clear=>
  simp only[XP]at a;split at a
  ·rename_i t H;split at a
   ·rename_i e F;split at a
    ·rename_i z M;split at a<;>simp only[Za,reduceCtorEq]at a;rename_i K;subst a;have k:∃d,D=[d]:=by
      simp only[We]at c;unfold QE at c;split at c
      ·exact⟨_,rfl⟩
      ·simp at c
     obtain⟨d,rfl⟩:=k;obtain⟨x,rfl,G⟩:=I d rfl;have j:f=#[t]:=by apply Array.ext';simpa using H
     subst j;exact yo t e z s x C o g F M K d G r c J
    ·simp at a
   ·simp at a
  ·simp at a
 |close=>simp[XP]at a
 |complex=>simp[XP]at a
 |delete=>simp[XP]at a
 |imag=>simp[XP]at a
 |make=>simp[XP]at a
 |new=>simp[XP]at a
 |panic=>simp[XP]at a
 |print=>simp[XP]at a
 |println=>simp[XP]at a
 |real=>simp[XP]at a
 |recover=>simp[XP]at a
 |unsafeAdd=>simp[XP]at a
 |unsafeSlice=>simp[XP]at a
 |unsafeSliceData=>simp[XP]at a
 |unsafeString=>simp[XP]at a
 |unsafeStringData=>simp[XP]at a
 |unsafeSizeof=>simp[XP]at a
 |unsafeAlignof=>simp[XP]at a
 |unsafeOffsetof=>simp[XP]at a
theorem CW (E:Xa)(a0:Nat){o:Oper}{a9:cH}{a4:List Vs}(g:XU P o.op=some (a9,a4))(T:List (Nat×DV))(F:Operand->Value)
  (v:∀x xo d,Xz x=some xo->xo.eval T=some d->XA w O μ h (F x) d) (ds:X') (I:Xv (Vs.eval T) a4=some ds) (r:Va) (D:We E a0 a9 ds h n=some r)
  (c5:∀f,a9≠.call f) (b5:a9≠.Sd) (hn:r.al≠[]->h n=none) (H:X3 w O μ h):V0 O w μ h n ((execOp F o).run P w) r:=by
 cases j:o.op with
 |move x=>
  simp only[XU,j]at g;cases A:Xz x with
  |none=>simp[A]at g
  |some R=>
  simp only[A,Za,Zp]at g;obtain⟨rfl,rfl⟩:=g;obtain⟨d,Q,rfl⟩:=ja I;exact qA x F o (.inl j) d (v _ _ _ A Q) r D H
 |assign x=>
  simp only[XU,j]at g;cases A:Xz x with
  |none=>simp[A]at g
  |some R=>
  simp only[A,Za,Zp]at g;obtain⟨rfl,rfl⟩:=g;obtain⟨d,Q,rfl⟩:=ja I;exact qA x F o (.inr j) d (v _ _ _ A Q) r D H
 |nilCheck x=>
  simp only[XU,j]at g;cases A:Xz x with
  |none=>simp[A]at g
  |some R=>
  simp only[A,Za,Zp]at g;obtain⟨rfl,rfl⟩:=g;obtain⟨d,Q,rfl⟩:=ja I;exact nQ x F o j d (v _ _ _ A Q) r D H
 |pick c x y=>
  simp only[XU,j]at g;cases b2:Xz c with
  |none=>simp[b2]at g
  |some c'=>
  cases A:Xz x with
  |none=>simp[A]at g
  |some R=>
  cases Y:Xz y with
  |none=>simp[Y]at g
  |some y'=>
  simp only[b2,A,Y,Za,Zp]at g;obtain⟨rfl,rfl⟩:=g;obtain⟨K,L,d3,B,C,a2,rfl⟩:=KO I;exact A6 c x y F o j K L d3 (v _ _ _ b2 B) (v _ _ _ A C) (v _ _ _ Y a2) r D H
 |box t x=>
  simp only[XU,j]at g;cases A:Xz x with
  |none=>simp[A]at g
  |some R=>
  simp only[A,Za,Zp]at g;obtain⟨rfl,rfl⟩:=g;obtain⟨d,Q,rfl⟩:=ja I;have S:r.al≠[]:=by simp only[We,bH]at D;split at D<;>simp at D;subst D;simp
  exact Ei t x F o j d (v _ _ _ A Q) r D (hn S) H
 |alloc t=>
  simp only[XU,j]at g;cases hz:zeroOf P t with
  |none=>simp[hz]at g
  |some z=>
  simp only[hz,Za,Zp]at g;obtain⟨rfl,rfl⟩:=g;obtain rfl:=fG I;have S:r.al≠[]:=by simp only[We,QF,Za]at D;subst D;simp
  exact yp t z F o j hz r D (hn S) H
 |load t x=>
  simp only[XU,j]at g;cases ha:ej P t with
  |none=>simp[ha]at g
  |some ag=>
  cases J:Wq P t with
  |none=>simp[J]at g
  |some s=>
  cases A:Xz x with
  |none=>simp[A]at g
  |some R=>
  simp only[ha,J,A,Za,Zp]at g;obtain⟨rfl,rfl⟩:=g;obtain⟨d,Q,rfl⟩:=ja I;obtain⟨i,M,rfl⟩:=WU J;exact A7 t i ag x F o j ha M d (v _ _ _ A Q) r D H
 |store t x y=>
  simp only[XU,j]at g;cases J:Wq P t with
  |none=>simp[J]at g
  |some s=>
  cases A:Xz x with
  |none=>simp[A]at g
  |some R=>
  cases Y:Xz y with
  |none=>simp[Y]at g
  |some y'=>
  simp only[J,A,Y,Za,Zp]at g;obtain⟨rfl,rfl⟩:=g;obtain⟨K,L,B,C,rfl⟩:=bN I;obtain⟨i,M,rfl⟩:=WU J;exact yl t i a0 x y F o j M K L (v _ _ _ A B) (v _ _ _ Y C) r D H
 |unOp op t x=>
  simp only[XU,j]at g;cases A:Xz x with
  |none=>simp[A]at g
  |some R=>
  simp only[A,Za,Zp]at g;obtain⟨rfl,rfl⟩:=g;obtain⟨d,Q,rfl⟩:=ja I;exact GY op t x F o j d (v _ _ _ A Q) r D H
 |extract x k=>
  simp only[XU,j]at g;cases A:Xz x with
  |none=>simp[A]at g
  |some R=>
  simp only[A,Za,Zp]at g;obtain⟨rfl,rfl⟩:=g;obtain⟨d,Q,rfl⟩:=ja I;exact qD k x F o j d (v _ _ _ A Q) r D H
 |convert s d x=>
  simp only[XU,j]at g;split at g<;>simp only[Za,Zp,reduceCtorEq]at g;rename_i u k R G hk A;obtain⟨rfl,rfl⟩:=g;obtain⟨dd,Q,rfl⟩:=ja I;exact Ba s d k x F o j ⟨u,G⟩ hk dd (v _ _ _ A Q) r D H
 |fieldAddr s x f=>
  simp only[XU,j]at g;split at g
  ·rename_i fs G;cases hf:fs[f]? with
   |none=>simp[hf]at g
   |some fl=>
   simp only[hf]at g;split at g<;>simp only[Za,Zp,reduceCtorEq]at g;rename_i k R J A;obtain⟨rfl,rfl⟩:=g;obtain⟨d,Q,rfl⟩:=ja I;obtain⟨i,M,a7⟩:=WU J;exact kE s fs f fl i x F o j G hf M (by omega) d (v _ _ _ A Q) r D H
  ·simp at g
 |field s x f=>
  simp only[XU,j]at g;split at g
  ·rename_i fs G;cases hf:fs[f]? with
   |none=>simp[hf]at g
   |some fl=>
   simp only[hf]at g;split at g<;>simp only[Za,Zp,reduceCtorEq]at g;rename_i ag sz R ha J A;obtain⟨rfl,rfl⟩:=g;obtain⟨d,Q,rfl⟩:=ja I;obtain⟨i,M,rfl⟩:=WU J;exact yn s fs f fl i ag x F o j G hf ha M d (v _ _ _ A Q) r D H
  ·simp at g
 |indexAddr t x i=>
  simp only[XU,j]at g;split at g
  ·rename_i e R i' G A M;cases J:Wq P e with
   |none=>simp[J]at g
   |some s=>
   simp only[J,Za,Zp]at g;obtain⟨rfl,rfl⟩:=g;obtain⟨K,L,B,C,rfl⟩:=bN I;obtain⟨ti,U,rfl⟩:=WU J;exact ui t e ti x i F o j G U K L (v _ _ _ A B) (v _ _ _ M C) r D H
  ·rename_i m e R i' G A M;cases J:Wq P e with
   |none=>simp[J]at g
   |some s=>
   simp only[J,Za,Zp]at g;obtain⟨rfl,rfl⟩:=g;obtain⟨K,L,B,C,rfl⟩:=bN I;obtain⟨ti,U,rfl⟩:=WU J;exact uj t e m ti x i F o j G U K L (v _ _ _ A B) (v _ _ _ M C) r D H
  ·simp at g
 |index t x i=>
  simp only[XU,j]at g;split at g
  ·rename_i R i' G A M;simp only[Za,Zp]at g;obtain⟨rfl,rfl⟩:=g;obtain⟨K,L,B,C,rfl⟩:=bN I;exact nR t x i F o j G K L (v _ _ _ A B) (v _ _ _ M C) r D H
  ·rename_i m e R i' G A M;split at g<;>simp only[Za,Zp,reduceCtorEq]at g;rename_i ag s ha J;obtain⟨rfl,rfl⟩:=g;obtain⟨K,L,B,C,rfl⟩:=bN I;obtain⟨ti,U,rfl⟩:=WU J;exact uh t e m ti ag x i F o j G ha U K L (v _ _ _ A B) (v _ _ _ M C) r D H
  ·simp at g
 |build t V=>
  simp only[XU,j]at g;split at g
  ·rename_i z xs hz W;split at g
   ·rename_i fs G;split at g
    ·rename_i a8 c6;split at g<;>simp only[Za,Zp,reduceCtorEq]at g;rename_i pl c7;obtain⟨rfl,rfl⟩:=g;exact lG t z pl V F o j hz (.inl ⟨fs,a8,G,c6,c7⟩) ds (Tb (fun p:Nat×Operand=>p.2) T F v _ _ _ W I) r D H
    ·simp at g
   ·rename_i m e G;cases J:Wq P e with
    |none=>simp[J]at g
    |some s=>
    simp only[J,Za,Zp]at g;obtain⟨rfl,rfl⟩:=g;exact lG t z _ V F o j hz (.inr ⟨m,e,s,G,J,rfl⟩) ds (Tb (fun p:Nat×Operand=>p.2) T F v _ _ _ W I) r D H
   ·simp at g
  ·simp at g
 |buildSlice t c8 V=>
  simp only[XU,j]at g;split at g
  ·rename_i e G;split at g
   ·rename_i z xs hz W;split at g<;>simp only[Za,Zp,reduceCtorEq]at g;rename_i N;rw[Zs]at N;obtain⟨rfl,rfl⟩:=g;have S:r.al≠[]:=by simp only[We,Uc]at D;split at D<;>simp at D;subst D;simp
    exact gR t e z c8 V F o j G hz (by simpa using N.1) (W7 N.2) ds (Tb (fun p:Nat×Operand=>p.2) T F v _ _ _ W I) r D (hn S) H
   ·simp at g
  ·simp at g
 |makeSlice t l c=>
  simp only[XU,j]at g;split at g
  ·rename_i e G;split at g
   ·rename_i z b l' c' hz hb hl c1;split at g<;>simp only[Za,Zp,reduceCtorEq]at g;rename_i N;obtain⟨rfl,rfl⟩:=g;obtain⟨K,L,B,C,rfl⟩:=bN I;obtain⟨i,M,rfl⟩:=N5 hb;have S:r.al≠[]:=by
     simp only[We]at D;unfold Uu at D;split at D
     ·obtain⟨_,rfl⟩:=XX D;simp
     ·simp at D
    exact kD t e z i l c F o j G hz M N K L (v _ _ _ hl B) (v _ _ _ c1 C) r D (hn S) H
   ·simp at g
  ·simp at g
 |slice t x lo M mx=>
  cases mx with
  |some mx=>
   cases lo with
   |none=>simp[XU,j]at g
   |some lo=>
   cases M with
   |none=>simp[XU,j]at g
   |some M=>
   simp only[XU,j]at g;split at g
   ·rename_i e G;split at g
    ·rename_i R l' h' m' s A hl Z hm J;simp only[Za,Zp]at g;obtain⟨rfl,rfl⟩:=g;obtain⟨d,b9,Q,b0,rfl⟩:=map_cons I;obtain⟨K,c9,B,c0,rfl⟩:=map_cons b0;obtain⟨L,d3,C,a2,rfl⟩:=bN c0;obtain⟨ti,U,rfl⟩:=WU J;exact ue t e ti x lo M mx F o j G U d K L d3 (v _ _ _ A Q) (v _ _ _ hl B) (v _ _ _ Z C) (v _ _ _ hm a2) r D H
    ·simp at g
   ·simp at g
  |none=>
  simp only[XU,j]at g;split at g
  ·rename_i e G;split at g
   ·rename_i R l' h' s A hl Z J;simp only[Za,Zp]at g;obtain⟨rfl,rfl⟩:=g;obtain⟨d,b8,Q,b4,rfl⟩:=map_cons I;obtain⟨ti,U,rfl⟩:=WU J;have c4:Xv (fun p=>Xz p) (lo.toList++M.toList)=some (l'++h'):=by
     cases lo with
     |none=>
      simp only[Se,Za]at hl;subst hl;cases M with
      |none=>simp only[Se,Za]at Z;subst Z;rfl
      |some hv=>
       simp only[Se]at Z;cases hq:Xz hv with
       |none=>simp[hq]at Z
       |some q=>simp only[hq,Za]at Z;subst Z;simp[Xv,hq]
     |some lv=>
      simp only[Se]at hl;cases a6:Xz lv with
      |none=>simp[a6]at hl
      |some q1=>
      simp only[a6,Za]at hl;subst hl;cases M with
      |none=>simp only[Se,Za]at Z;subst Z;simp[Xv,a6]
      |some hv=>
       simp only[Se]at Z;cases hq:Xz hv with
       |none=>simp[hq]at Z
       |some q=>simp only[hq,Za]at Z;subst Z;simp[Xv,hq,a6]
    exact ym t e ti x lo M F o j G U d b8 (v _ _ _ A Q) (Tb (fun p=>p) T F v _ _ _ c4 b4) r D H
   ·simp at g
  ·simp at g
 |makeFunc fn first a1=>
  cases fn with
  |func f=>
   simp only[XU,j]at g;cases a3:first.isEmpty with
   |false=>
    simp only[a3,Zy,if_false]at g;cases X:a1.isEmpty with
    |false=>simp[X]at g
    |true=>
    simp only[X,if_true]at g;split at g<;>simp only[Za,Zp,reduceCtorEq]at g;rename_i cs b3;obtain⟨rfl,rfl⟩:=g;have hf:a1=#[]:=by simpa using X
    subst hf;have hb:Nat.blt (f+aM) aM=false:=by
     cases hb:Nat.blt (f+aM) aM with
     |false=>rfl
     |true=>have:=Qy hb;omega
    exact aZ (f+aM) first F o (.inr ⟨hb,by rw[Yj];exact j⟩) ds (Tb (fun p=>p) T F v _ _ _ b3 I) r D H
   |true=>
   simp only[a3,if_true]at g;split at g
   ·rename_i cs b3;split at g<;>simp only[Za,Zp,reduceCtorEq]at g;rename_i hb;obtain⟨rfl,rfl⟩:=g;have hf:first=#[]:=by simpa using a3
    subst hf;exact aZ f a1 F o (.inl ⟨hb,j⟩) ds (Tb (fun p=>p) T F v _ _ _ b3 I) r D H
   ·simp at g
  |method _=>simp[XU,j]at g
  |methodOf _ _=>simp[XU,j]at g
  |via _ _ _ _=>simp[XU,j]at g
  |yield _=>simp[XU,j]at g
 |binOp op t x y u=>
  simp only[XU,j]at g;split at g
  ·rename_i R y' A Y;split at g
   ·rename_i k G;simp only[Za,Zp]at g;obtain⟨rfl,rfl⟩:=g;obtain⟨K,L,B,C,rfl⟩:=bN I;exact Ej op t u x y F o j K L (v _ _ _ A B) (v _ _ _ Y C) r D H
   ·rename_i G;split at g<;>simp only[Za,Zp,reduceCtorEq]at g<;>obtain⟨rfl,rfl⟩:=g<;>obtain⟨K,L,B,C,rfl⟩:=bN I
    ·exact qE false t u x y F o j G K L (v _ _ _ A B) (v _ _ _ Y C) r D H
    ·exact qE true t u x y F o j G K L (v _ _ _ A B) (v _ _ _ Y C) r D H
   ·rename_i e G;split at g<;>simp only[Za,Zp,reduceCtorEq]at g<;>obtain⟨rfl,rfl⟩:=g<;>obtain⟨K,L,B,C,rfl⟩:=bN I
    ·exact gS false t u e x y F o j G K L (v _ _ _ A B) (v _ _ _ Y C) r D H
    ·exact gS true t u e x y F o j G K L (v _ _ _ A B) (v _ _ _ Y C) r D H
   ·rename_i m e G;split at g
    ·rename_i k hk J hg;obtain⟨i,M,a7⟩:=WU J;split at g<;>simp only[Za,Zp,reduceCtorEq]at g<;>obtain⟨rfl,rfl⟩:=g<;>obtain⟨K,L,B,C,rfl⟩:=bN I
     ·exact gT false t u e k m i x y F o j G hk M a7 hg K L (v _ _ _ A B) (v _ _ _ Y C) r D H
     ·exact gT true t u e k m i x y F o j G hk M a7 hg K L (v _ _ _ A B) (v _ _ _ Y C) r D H
    ·simp at g
   ·simp at g
  ·simp at g
 |call c=>
  obtain⟨a5,args,b7⟩:=c;simp only[XU,j]at g;cases W:Pu args with
  |none=>simp[W]at g
  |some xs=>
  simp only[W]at g;have b1:∀ds,Xv (Vs.eval T) xs=some ds->XB (fun p d=>XA w O μ h (F p) d) args.toList ds:=fun ds c2=>Tb (fun p=>p) T F v _ _ _ W c2
  cases a5 with
  |invoke _ _=>simp at g
  |value x=>
   cases x with
   |func f=>simp only[Za,Zp]at g;exact absurd g.1.symm (c5 f)
   |tmp q=>simp only[Xz,Za,Zp]at g;exact absurd g.1.symm b5
   |const q=>
    simp only at g;cases hq:Xz (.const q)with
    |none=>simp[hq]at g
    |some q'=>simp only[hq,Za,Zp]at g;exact absurd g.1.symm b5
   |global q=>simp[Xz]at g
  |builtin b=>
   simp only at g;cases hb:XP P b b7 with
   |none=>simp[hb]at g
   |some op=>
   simp only[hb,Za,Zp]at g;obtain⟨rfl,rfl⟩:=g;have ha:=b1 ds I;exact fp E a0 b b7 args o j op hb F ds ha r D hn H
 |makeMap t rv=>
  cases rv with
  |some _=>simp[XU,j]at g
  |none=>
  simp only[XU,j]at g;split at g
  ·split at g<;>simp only[Za,Zp,reduceCtorEq]at g;obtain⟨rfl,rfl⟩:=g;rw[fG I]at D;have S:r.al≠[]:=by
    simp only[We,T8,Za]at D;subst D;simp
   exact qC t _ _ F o j r D (hn S) H
  ·simp at g
 |lookup t x i ok=>
  simp only[XU,j]at g;split at g
  ·rename_i kt e G;split at g<;>simp only[Za,Zp,reduceCtorEq]at g;rename_i m kk a z R i' hk b6 hz A M;obtain⟨rfl,rfl⟩:=g;obtain⟨K,L,B,C,rfl⟩:=bN I;obtain⟨te,ti,g1,g2,g3,g4⟩:=eO hk;exact uf t kt e te m kk ti a ok z x i F o j G g1 g2 g3 g4 b6 hz K L (v _ _ _ A B) (v _ _ _ M C) r D H
  ·simp at g
 |mapUpdate t m k x=>
  simp only[XU,j]at g;split at g
  ·rename_i kt e G;split at g<;>simp only[Za,Zp,reduceCtorEq]at g;rename_i ml kk a sz m' k' R hk b6 a7 hm c3 A;obtain⟨rfl,rfl⟩:=g;obtain⟨K,b9,B,b0,rfl⟩:=map_cons I;obtain⟨L,d3,C,a2,rfl⟩:=bN b0;obtain⟨te,ti,g1,g2,g3,g4⟩:=eO hk;exact kC t kt e te ml sz kk ti a m k x F o j G g1 g2 g3 g4 K L d3 (v _ _ _ hm B) (v _ _ _ c3 C) (v _ _ _ A a2) r D H
  ·simp at g
 |insert _ _ _ _=>simp[XU,j]at g
 |ready _=>simp[XU,j]at g
 |waits _=>simp[XU,j]at g
 |sliceToArrayPointer _ _=>simp[XU,j]at g
 |makeInterface _ _=>simp[XU,j]at g
 |makeChan _ _=>simp[XU,j]at g
 |mapEntry _ _ _=>simp[XU,j]at g
 |entryStore _ _ _ _=>simp[XU,j]at g
 |range _ _=>simp[XU,j]at g
 |next _ _=>simp[XU,j]at g
 |entry _=>simp[XU,j]at g
 |typeAssert _ _ _ _=>simp[XU,j]at g
 |go _=>simp[XU,j]at g
 |defer _=>simp[XU,j]at g
 |panic _=>simp[XU,j]at g
 |send _ _=>simp[XU,j]at g
 |recv _ _ _=>simp[XU,j]at g
 |select _ _=>simp[XU,j]at g
end
end Go.Ev
