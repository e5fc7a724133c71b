/- Every operation but a call: what the model computes stands for what the interpreter computes. (Printed by gen_opsim.py.) -/
import Derived.Test.YtidginchkjhobaaGreatEvCall
import Derived.Test.YtidginchkjhobaaGreatEvMaps
namespace Go.Ev
section
variable {P:Program}{O:BS}{w:World}{μ:Nat->Nat}{h:HF}{n:Nat}
theorem jU {c b:Type}{f:c->Option b}{a}(h:Xw f []=some a):a=[]:=by grind [Xw]
theorem map_cons {b e:Type}{f:b->Option e}{x}{d}{c}(h:Xw f (x::d)=some c):∃a as,f x=some a/\Xw f d=some as/\c=a::as:=by grind [Xw]
theorem jT {c d:Type}{f:c->Option d}{x:c}{b:List d}(h:Xw f [x]=some b):∃a,f x=some a/\b=[a]:=by
 obtain⟨a,as,e,g,rfl⟩:=map_cons h
 grind [jU]
theorem cL {d e:Type}{f:d->Option e}{x y:d}{c:List e}(h:Xw f [x,y]=some c):∃a b,f x=some a/\f y=some b/\c=[a,b]:=by
 obtain⟨a,as,i,g,rfl⟩:=map_cons h;obtain⟨b,j,rfl⟩:=jT g
 grind
theorem MU {e g:Type}{f:e->Option g}{x y z:e}{d:List g}(h:Xw f [x,y,z]=some d):∃a b c,f x=some a/\f y=some b/\f z=some c/\d=[a,b,c]:=by
 obtain⟨a,as,j,i,rfl⟩:=map_cons h;obtain⟨b,c,k,l,rfl⟩:=cL i
 grind
theorem Tp {n:Type}(g:n->Operand)(T)(l:Operand->Value)(a:∀x m d,XJ x=some m->m.eval T=some d->XF w O μ h (l x) d):
  ∀c e b,Xw (fun p=>XJ (g p)) c=some e->Xw (VB.eval T) e=some b->XE (fun p d=>XF w O μ h (l (g p)) d) c b
 |[],e,b,h1,h2=>by rw[jU h1]at h2;rw[jU h2];exact .nil
 |p::c,e,b,h1,h2=>by
  obtain⟨x,k,q,j,rfl⟩:=map_cons h1;obtain⟨d,f,o,i,rfl⟩:=map_cons h2;exact .cons (a _ _ _ q o) (Tp g T l a c k f j i)
theorem W7 {t:TypeId}{s}(a:Wv P t=some s):∃i,P.info? t=some i/\i.size=s:=by
 unfold Wv at a
 simp_all
theorem aO {t:TypeId}{s}(a:dz P t=some s):∃i,P.info? t=some i/\i.bytes=s:=by
 unfold dz at a
 simp_all
theorem gy (E)(s)(b:Builtin)(c:Array TypeId)(args:Array Operand)(o)(g:o.op=.call ⟨.builtin b,args,c⟩)(V)(a:XU P b c=some V)(C:Operand->Value)
  (D) (B:XE (fun p d=>XF w O μ h (C p) d) args.toList D) (r) (f:Wf E s V D h n=some r) (Z:r.al≠[]->h n=none) (I:X1 w O μ h):V5 O w μ h n ((execOp C o).run P w) r:=by
 have H:∀d,D=[d]->∃x,args=#[x]/\XF w O μ h (C x) d:=by
  intro d k;subst k;generalize Y:args.toList=l at B;cases B with
  |cons N Q=>cases Q;grind
 have M:∀v A,D=[v,A]->∃x y,args=#[x,y]/\XF w O μ h (C x) v/\XF w O μ h (C y) A:=by
  intro v A k;subst k;generalize Y:args.toList=l at B;cases B with
  |cons N Q=>cases Q with
   |cons h3 X=>cases X;grind
 cases b with
 |len=>
  simp only[XU]at a;cases K:c[0]? with
  |none=>simp[K]at a
  |some t=>
  simp only[K]at a;split at a<;>simp only[Zb,reduceCtorEq]at a<;>subst a
  ·rename_i e F;have k:∃d,D=[d]:=by
    simp only[Wf]at f;unfold OE at f
    grind
   obtain⟨d,rfl⟩:=k;obtain⟨x,rfl,G⟩:=H d rfl;exact Gs t x C o c g e K F d G r f I
  ·rename_i m e F;have k:∃d,D=[d]:=by
    simp only[Wf]at f;unfold bc at f
    grind
   obtain⟨d,rfl⟩:=k;obtain⟨x,rfl,G⟩:=H d rfl;exact CZ t m e x C o c g K F d r f I
  ·rename_i kt e F;have k:∃d,D=[d]:=by
    simp only[Wf]at f;unfold TR at f
    grind
   obtain⟨d,rfl⟩:=k;obtain⟨x,rfl,G⟩:=H d rfl;exact vQ t kt e x C o c g K F d G r f I
 |append=>
  simp only[XU]at a;split at a
  ·rename_i t u N;split at a
   ·rename_i q;have q:t=u:=by simpa using q
    subst q;split at a
    ·rename_i e F;split at a
     ·rename_i z W L R;split at a<;>simp only[Zb,reduceCtorEq]at a;rename_i J;subst a;obtain⟨i,S,rfl⟩:=aO R;have k:∃v A,D=[v,A]:=by
       simp only[Wf]at f;unfold Vs at f
       grind
      obtain⟨v,A,rfl⟩:=k;obtain⟨x,y,rfl,G,U⟩:=M v A rfl;have j:c=#[t,t]:=by grind
      subst j;exact vU t e z i s x y C o g F L S J v A G U r f Z I
     ·simp at a
    ·simp at a
   ·simp at a
  ·simp at a
 |copy=>
  simp only[XU]at a;split at a
  ·rename_i t u N;split at a
   ·rename_i q;have q:t=u:=by simpa using q
    subst q;split at a
    ·rename_i e F;split at a<;>simp only[Zb,reduceCtorEq]at a;rename_i m L;subst a;obtain⟨i,S,T⟩:=W7 L;have k:∃v A,D=[v,A]:=by
      simp only[Wf]at f;unfold Oh at f
      grind
     obtain⟨v,A,rfl⟩:=k;obtain⟨x,y,rfl,G,U⟩:=M v A rfl;have j:c=#[t,t]:=by grind
     subst j;exact C0 t e i s x y C o g F S v A G U r (by rw[T];exact f) I
    ·simp at a
   ·simp at a
  ·simp at a
 |max=>simp only[XU,Zb]at a;subst a;exact yp false args C o c g D B r f I
 |min=>simp only[XU,Zb]at a;subst a;exact yp true args C o c g D B r f I
 |cap=>simp[XU]at a
 |clear=>
  simp only[XU]at a;split at a
  ·rename_i t N;split at a
   ·rename_i e F;split at a
    ·rename_i z L;split at a<;>simp only[Zb,reduceCtorEq]at a;rename_i J;subst a;have k:∃d,D=[d]:=by
      simp only[Wf]at f;unfold QQ at f
      grind
     obtain⟨d,rfl⟩:=k;obtain⟨x,rfl,G⟩:=H d rfl;have j:c=#[t]:=by grind
     subst j;exact Am t e z s x C o g F L J d G r f I
    ·simp at a
   ·simp at a
  ·simp at a
 |close=>simp[XU]at a
 |complex=>simp[XU]at a
 |delete=>simp[XU]at a
 |imag=>simp[XU]at a
 |make=>simp[XU]at a
 |new=>simp[XU]at a
 |panic=>simp[XU]at a
 |print=>simp[XU]at a
 |println=>simp[XU]at a
 |real=>simp[XU]at a
 |recover=>simp[XU]at a
 |unsafeAdd=>simp[XU]at a
 |unsafeSlice=>simp[XU]at a
 |unsafeSliceData=>simp[XU]at a
 |unsafeString=>simp[XU]at a
 |unsafeStringData=>simp[XU]at a
 |unsafeSizeof=>simp[XU]at a
 |unsafeAlignof=>simp[XU]at a
 |unsafeOffsetof=>simp[XU]at a
theorem E4 (E:Xa)(a7:Nat){o:Oper}{a6:dK}{a2:List VB}(g:XY P o.op=some (a6,a2))(T:List (Nat×DV))(C:Operand->Value)
  (q:∀x xo d,XJ x=some xo->xo.eval T=some d->XF w O μ h (C x) d) (Z:X') (H:Xw (VB.eval T) a2=some Z) (r:Vk) (F:Wf E a7 a6 Z h n=some r)
  (c8:∀f,a6≠.call f) (c9:a6≠.Sw) (hn:r.al≠[]->h n=none) (G:X1 w O μ h):V5 O w μ h n ((execOp C o).run P w) r:=by
 cases j:o.op with
 |move x=>
  simp only[XY,j]at g;cases v:XJ x with
  |none=>simp[v]at g
  |some Q=>
  simp only[v,Zb,Zq]at g;obtain⟨rfl,rfl⟩:=g;obtain⟨d,N,rfl⟩:=jT H;exact sw x C o (.inl j) d (q _ _ _ v N) r F G
 |assign x=>
  simp only[XY,j]at g;cases v:XJ x with
  |none=>simp[v]at g
  |some Q=>
  simp only[v,Zb,Zq]at g;obtain⟨rfl,rfl⟩:=g;obtain⟨d,N,rfl⟩:=jT H;exact sw x C o (.inr j) d (q _ _ _ v N) r F G
 |nilCheck x=>
  simp only[XY,j]at g;cases v:XJ x with
  |none=>simp[v]at g
  |some Q=>
  simp only[v,Zb,Zq]at g;obtain⟨rfl,rfl⟩:=g;obtain⟨d,N,rfl⟩:=jT H;exact pA x C o j d (q _ _ _ v N) r F G
 |pick c x y=>
  simp only[XY,j]at g;cases b0:XJ c with
  |none=>simp[b0]at g
  |some c'=>
  cases v:XJ x with
  |none=>simp[v]at g
  |some Q=>
  cases W:XJ y with
  |none=>simp[W]at g
  |some y'=>
  simp only[b0,v,W,Zb,Zq]at g;obtain⟨rfl,rfl⟩:=g;obtain⟨J,K,d3,A,B,a0,rfl⟩:=MU H;exact CX c x y C o j J K d3 (q _ _ _ b0 A) (q _ _ _ v B) (q _ _ _ W a0) r F G
 |box t x=>
  simp only[XY,j]at g;cases v:XJ x with
  |none=>simp[v]at g
  |some Q=>
  simp only[v,Zb,Zq]at g;obtain⟨rfl,rfl⟩:=g;obtain⟨d,N,rfl⟩:=jT H
  grind [Wf,cD,Gt]
 |alloc t=>
  simp only[XY,j]at g;cases hz:zeroOf P t with
  |none=>simp[hz]at g
  |some z=>
  simp only[hz,Zb,Zq]at g;obtain⟨rfl,rfl⟩:=g;obtain rfl:=jU H
  grind [Wf,QR,An]
 |load t x=>
  simp only[XY,j]at g;cases ha:fE P t with
  |none=>simp[ha]at g
  |some ag=>
  cases I:Wv P t with
  |none=>simp[I]at g
  |some s=>
  cases v:XJ x with
  |none=>simp[v]at g
  |some Q=>
  simp only[ha,I,v,Zb,Zq]at g;obtain⟨rfl,rfl⟩:=g;obtain⟨d,N,rfl⟩:=jT H;obtain⟨i,L,rfl⟩:=W7 I;exact CY t i ag x C o j ha L d (q _ _ _ v N) r F G
 |store t x y=>
  simp only[XY,j]at g;cases I:Wv P t with
  |none=>simp[I]at g
  |some s=>
  cases v:XJ x with
  |none=>simp[v]at g
  |some Q=>
  cases W:XJ y with
  |none=>simp[W]at g
  |some y'=>
  simp only[I,v,W,Zb,Zq]at g;obtain⟨rfl,rfl⟩:=g;obtain⟨J,K,A,B,rfl⟩:=cL H;obtain⟨i,L,rfl⟩:=W7 I;exact Aj t i a7 x y C o j L J K (q _ _ _ v A) (q _ _ _ W B) r F G
 |unOp op t x=>
  simp only[XY,j]at g;cases v:XJ x with
  |none=>simp[v]at g
  |some Q=>
  simp only[v,Zb,Zq]at g;obtain⟨rfl,rfl⟩:=g;obtain⟨d,N,rfl⟩:=jT H;exact I5 op t x C o j d (q _ _ _ v N) r F G
 |extract x k=>
  simp only[XY,j]at g;cases v:XJ x with
  |none=>simp[v]at g
  |some Q=>
  simp only[v,Zb,Zq]at g;obtain⟨rfl,rfl⟩:=g;obtain⟨d,N,rfl⟩:=jT H;exact sA k x C o j d (q _ _ _ v N) r F G
 |convert s d x=>
  simp only[XY,j]at g;split at g<;>simp only[Zb,Zq,reduceCtorEq]at g;rename_i u k Q D hk v;obtain⟨rfl,rfl⟩:=g;obtain⟨dd,N,rfl⟩:=jT H;exact C4 s d k x C o j ⟨u,D⟩ hk dd (q _ _ _ v N) r F G
 |fieldAddr s x f=>
  simp only[XY,j]at g;split at g
  ·rename_i fs D;cases hf:fs[f]? with
   |none=>simp[hf]at g
   |some fl=>
   simp only[hf]at g;split at g<;>simp only[Zb,Zq,reduceCtorEq]at g;rename_i k Q I v;obtain⟨rfl,rfl⟩:=g;obtain⟨d,N,rfl⟩:=jT H;obtain⟨i,L,a4⟩:=W7 I;exact mh s fs f fl i x C o j D hf L (by omega) d (q _ _ _ v N) r F G
  ·simp at g
 |field s x f=>
  simp only[XY,j]at g;split at g
  ·rename_i fs D;cases hf:fs[f]? with
   |none=>simp[hf]at g
   |some fl=>
   simp only[hf]at g;split at g<;>simp only[Zb,Zq,reduceCtorEq]at g;rename_i ag sz Q ha I v;obtain⟨rfl,rfl⟩:=g;obtain⟨d,N,rfl⟩:=jT H;obtain⟨i,L,rfl⟩:=W7 I;exact Al s fs f fl i ag x C o j D hf ha L d (q _ _ _ v N) r F G
  ·simp at g
 |indexAddr t x i=>
  simp only[XY,j]at g;split at g
  ·rename_i e Q i' D v L;cases I:Wv P e with
   |none=>simp[I]at g
   |some s=>
   simp only[I,Zb,Zq]at g;obtain⟨rfl,rfl⟩:=g;obtain⟨J,K,A,B,rfl⟩:=cL H;obtain⟨X,R,rfl⟩:=W7 I;exact vS t e X x i C o j D R J K (q _ _ _ v A) (q _ _ _ L B) r F G
  ·rename_i m e Q i' D v L;cases I:Wv P e with
   |none=>simp[I]at g
   |some s=>
   simp only[I,Zb,Zq]at g;obtain⟨rfl,rfl⟩:=g;obtain⟨J,K,A,B,rfl⟩:=cL H;obtain⟨X,R,rfl⟩:=W7 I;exact vT t e m X x i C o j D R J K (q _ _ _ v A) (q _ _ _ L B) r F G
  ·simp at g
 |index t x i=>
  simp only[XY,j]at g;split at g
  ·rename_i Q i' D v L;simp only[Zb,Zq]at g;obtain⟨rfl,rfl⟩:=g;obtain⟨J,K,A,B,rfl⟩:=cL H;exact pB t x i C o j D J K (q _ _ _ v A) (q _ _ _ L B) r F G
  ·rename_i m e Q i' D v L;split at g<;>simp only[Zb,Zq,reduceCtorEq]at g;rename_i ag s ha I;obtain⟨rfl,rfl⟩:=g;obtain⟨J,K,A,B,rfl⟩:=cL H;obtain⟨X,R,rfl⟩:=W7 I;exact vR t e m X ag x i C o j D ha R J K (q _ _ _ v A) (q _ _ _ L B) r F G
  ·simp at g
 |build t S=>
  simp only[XY,j]at g;split at g
  ·rename_i z xs hz U;split at g
   ·rename_i fs D;split at g
    ·rename_i a5 c3;split at g<;>simp only[Zb,Zq,reduceCtorEq]at g;rename_i pl c4;obtain⟨rfl,rfl⟩:=g;exact nk t z pl S C o j hz (.inl ⟨fs,a5,D,c3,c4⟩) Z (Tp (fun p:Nat×Operand=>p.2) T C q _ _ _ U H) r F G
    ·simp at g
   ·rename_i m e D;cases I:Wv P e with
    |none=>simp[I]at g
    |some s=>
    simp only[I,Zb,Zq]at g;obtain⟨rfl,rfl⟩:=g;exact nk t z _ S C o j hz (.inr ⟨m,e,s,D,I,rfl⟩) Z (Tp (fun p:Nat×Operand=>p.2) T C q _ _ _ U H) r F G
   ·simp at g
  ·simp at g
 |buildSlice t c5 S=>
  simp only[XY,j]at g;split at g
  ·rename_i e D;split at g
   ·rename_i z xs hz U;split at g<;>simp only[Zb,Zq,reduceCtorEq]at g;rename_i M;rw[Zs]at M;obtain⟨rfl,rfl⟩:=g;have a9:r.al≠[]:=by grind [Wf,Uf]
    exact iZ t e z c5 S C o j D hz (by simpa using M.1) (Vp M.2) Z (Tp (fun p:Nat×Operand=>p.2) T C q _ _ _ U H) r F (hn a9) G
   ·simp at g
  ·simp at g
 |makeSlice t l c=>
  simp only[XY,j]at g;split at g
  ·rename_i e D;split at g
   ·rename_i z b l' c' hz hb hl b9;split at g<;>simp only[Zb,Zq,reduceCtorEq]at g;rename_i M;obtain⟨rfl,rfl⟩:=g;obtain⟨J,K,A,B,rfl⟩:=cL H;obtain⟨i,L,rfl⟩:=aO hb;have a9:r.al≠[]:=by
     simp only[Wf]at F;unfold UD at F;split at F
     ·grind
     ·simp at F
    exact me t e z i l c C o j D hz L M J K (q _ _ _ hl A) (q _ _ _ b9 B) r F (hn a9) G
   ·simp at g
  ·simp at g
 |slice t x lo L mx=>
  cases mx with
  |some mx=>
   cases lo with
   |none=>simp[XY,j]at g
   |some lo=>
   cases L with
   |none=>simp[XY,j]at g
   |some L=>
   simp only[XY,j]at g;split at g
   ·rename_i e D;split at g
    ·rename_i Q l' h' m' s v hl hh hm I;simp only[Zb,Zq]at g;obtain⟨rfl,rfl⟩:=g;obtain⟨d,b6,N,a8,rfl⟩:=map_cons H;obtain⟨J,c7,A,b7,rfl⟩:=map_cons a8;obtain⟨K,d3,B,a0,rfl⟩:=cL b7;obtain⟨X,R,rfl⟩:=W7 I;exact vO t e X x lo L mx C o j D R d J K d3 (q _ _ _ v N) (q _ _ _ hl A) (q _ _ _ hh B) (q _ _ _ hm a0) r F G
    ·simp at g
   ·simp at g
  |none=>
  simp only[XY,j]at g;split at g
  ·rename_i e D;split at g
   ·rename_i Q l' h' s v hl hh I;simp only[Zb,Zq]at g;obtain⟨rfl,rfl⟩:=g;obtain⟨d,b5,N,b2,rfl⟩:=map_cons H;obtain⟨X,R,rfl⟩:=W7 I;have c2:Xw (fun p=>XJ p) (lo.toList++L.toList)=some (l'++h'):=by
     cases lo with
     |none=>
      simp only[Sx,Zb]at hl;subst hl;cases L with
      |none=>simp only[Sx,Zb]at hh;subst hh;rfl
      |some hv=>
       grind [Sx,Xw]
     |some lv=>
      simp only[Sx]at hl;cases b3:XJ lv with
      |none=>simp[b3]at hl
      |some q1=>
      simp only[b3,Zb]at hl;subst hl;cases L with
      |none=>grind [Sx,Xw]
      |some hv=>
       simp only[Sx]at hh
       grind [Xw]
    exact Ak t e X x lo L C o j D R d b5 (q _ _ _ v N) (Tp (fun p=>p) T C q _ _ _ c2 b2) r F G
   ·simp at g
  ·simp at g
 |makeFunc fn first Y=>
  cases fn with
  |func f=>
   simp only[XY,j]at g;cases a1:first.isEmpty with
   |false=>
    simp only[a1,ZC,if_false]at g;cases V:Y.isEmpty with
    |false=>simp[V]at g
    |true=>
    simp only[V,if_true]at g;split at g<;>simp only[Zb,Zq,reduceCtorEq]at g;rename_i cs b1;obtain⟨rfl,rfl⟩:=g;have hf:Y=#[]:=by simpa using V
    subst hf;have hb:Nat.blt (f+bF) bF=false:=by
     cases hb:Nat.blt (f+bF) bF with
     |false=>rfl
     |true=>have:=QG hb;omega
    exact bR (f+bF) first C o (.inr ⟨hb,by grind [Ys]⟩) Z (Tp (fun p=>p) T C q _ _ _ b1 H) r F G
   |true=>
   simp only[a1,if_true]at g;split at g
   ·rename_i cs b1;split at g<;>simp only[Zb,Zq,reduceCtorEq]at g;rename_i hb;obtain⟨rfl,rfl⟩:=g;have hf:first=#[]:=by simpa using a1
    subst hf;exact bR f Y C o (.inl ⟨hb,j⟩) Z (Tp (fun p=>p) T C q _ _ _ b1 H) r F G
   ·simp at g
  |method _=>simp[XY,j]at g
  |methodOf _ _=>simp[XY,j]at g
  |via _ _ _ _=>simp[XY,j]at g
  |yield _=>simp[XY,j]at g
 |binOp op t x y u=>
  simp only[XY,j]at g;split at g
  ·rename_i Q y' v W;split at g
   ·rename_i k D;simp only[Zb,Zq]at g;obtain⟨rfl,rfl⟩:=g;obtain⟨J,K,A,B,rfl⟩:=cL H;exact Gu op t u x y C o j J K (q _ _ _ v A) (q _ _ _ W B) r F G
   ·rename_i D;split at g<;>simp only[Zb,Zq,reduceCtorEq]at g<;>obtain⟨rfl,rfl⟩:=g<;>obtain⟨J,K,A,B,rfl⟩:=cL H
    ·exact sB false t u x y C o j D J K (q _ _ _ v A) (q _ _ _ W B) r F G
    ·exact sB true t u x y C o j D J K (q _ _ _ v A) (q _ _ _ W B) r F G
   ·rename_i e D;split at g<;>simp only[Zb,Zq,reduceCtorEq]at g<;>obtain⟨rfl,rfl⟩:=g<;>obtain⟨J,K,A,B,rfl⟩:=cL H
    ·exact ja false t u e x y C o j D J K (q _ _ _ v A) (q _ _ _ W B) r F G
    ·exact ja true t u e x y C o j D J K (q _ _ _ v A) (q _ _ _ W B) r F G
   ·rename_i m e D;split at g
    ·rename_i k hk I hg;obtain⟨i,L,a4⟩:=W7 I;split at g<;>simp only[Zb,Zq,reduceCtorEq]at g<;>obtain⟨rfl,rfl⟩:=g<;>obtain⟨J,K,A,B,rfl⟩:=cL H
     ·exact jb false t u e k m i x y C o j D hk L a4 hg J K (q _ _ _ v A) (q _ _ _ W B) r F G
     ·exact jb true t u e k m i x y C o j D hk L a4 hg J K (q _ _ _ v A) (q _ _ _ W B) r F G
    ·simp at g
   ·simp at g
  ·simp at g
 |call c=>
  obtain⟨a3,args,c6⟩:=c;simp only[XY,j]at g;cases U:PK args with
  |none=>simp[U]at g
  |some xs=>
  simp only[U]at g;have b8:∀Z,Xw (VB.eval T) xs=some Z->XE (fun p d=>XF w O μ h (C p) d) args.toList Z:=fun Z c0=>Tp (fun p=>p) T C q _ _ _ U c0
  cases a3 with
  |invoke _ _=>simp at g
  |value x=>
   grind
  |builtin b=>
   simp only at g;cases hb:XU P b c6 with
   |none=>simp[hb]at g
   |some op=>
   grind [gy]
 |makeMap t rv=>
  cases rv with
  |some _=>simp[XY,j]at g
  |none=>
  simp only[XY,j]at g;split at g
  ·split at g<;>simp only[Zb,Zq,reduceCtorEq]at g;obtain⟨rfl,rfl⟩:=g
   grind [Wf,Sj,sy]
  ·simp at g
 |lookup t x i ok=>
  simp only[XY,j]at g;split at g
  ·rename_i kt e D;split at g<;>simp only[Zb,Zq,reduceCtorEq]at g;rename_i m kk a z Q i' hk b4 hz v L;obtain⟨rfl,rfl⟩:=g;obtain⟨J,K,A,B,rfl⟩:=cL H;obtain⟨te,X,g1,g2,g3,g4⟩:=fY hk;exact vP t kt e te m kk X a ok z x i C o j D g1 g2 g3 g4 b4 hz J K (q _ _ _ v A) (q _ _ _ L B) r F G
  ·simp at g
 |mapUpdate t m k x=>
  simp only[XY,j]at g;split at g
  ·rename_i kt e D;split at g<;>simp only[Zb,Zq,reduceCtorEq]at g;rename_i ml kk a sz m' k' Q hk b4 a4 hm c1 v;obtain⟨rfl,rfl⟩:=g;obtain⟨J,b6,A,a8,rfl⟩:=map_cons H;obtain⟨K,d3,B,a0,rfl⟩:=cL a8;obtain⟨te,X,g1,g2,g3,g4⟩:=fY hk;exact mc t kt e te ml sz kk X a m k x C o j D g1 g2 g3 g4 J K d3 (q _ _ _ hm A) (q _ _ _ c1 B) (q _ _ _ v a0) r F G
  ·simp at g
 |insert _ _ _ _=>simp[XY,j]at g
 |ready _=>simp[XY,j]at g
 |waits _=>simp[XY,j]at g
 |sliceToArrayPointer _ _=>simp[XY,j]at g
 |makeInterface _ _=>simp[XY,j]at g
 |makeChan _ _=>simp[XY,j]at g
 |mapEntry _ _ _=>simp[XY,j]at g
 |entryStore _ _ _ _=>simp[XY,j]at g
 |range _ _=>simp[XY,j]at g
 |next _ _=>simp[XY,j]at g
 |entry _=>simp[XY,j]at g
 |typeAssert _ _ _ _=>simp[XY,j]at g
 |go _=>simp[XY,j]at g
 |defer _=>simp[XY,j]at g
 |panic _=>simp[XY,j]at g
 |send _ _=>simp[XY,j]at g
 |recv _ _ _=>simp[XY,j]at g
 |select _ _=>simp[XY,j]at g
end
