/- Opening the raw arguments. -/
import Derived.Test.YtidginchkjhobaaGreatLaw
import Derived.Test.YtidginchkjhobaaGreatSanity
import Derived.Test.YtidginchkjhobaaGreatRows
import Derived.ProofKit
import Derived.OpenShut
set_option maxRecDepth 100000
namespace Go.Proofs.YtidginchkjhobaaGreat
open Go.Ev Go.ChangeShapes Go.WideShapes Go.ChangeAt Go.RowKit
theorem lF {g:Type}{Q:Nat->g->Prop}:∀(n:Nat),(∀i,i<n->∃c,Q i c)->∃b:List g,b.length=n/\∀i c,b[i]? =some c->Q i c
 |0,_=>⟨[],rfl,fun i c h=>by simp at h⟩
 |n+1,h=>by
  obtain⟨b,j,k⟩:=lF n (fun i f=>h i (by omega));obtain⟨c,l⟩:=h n (by omega);refine⟨b++[c],by simp[j],fun i d a=> ?_⟩;by_cases f:i<b.length
  ·rw[ZB f]at a;exact k i d a
  ·rw[ZL (by omega)]at a;have e:i-b.length=0:=by
    have:=(Zb.1 a).1;simp at this;omega
   rw[e]at a;simp only[YZ,Za]at a;subst a;have :i=n:=by omega
   subst this;exact l
section
variable {H:Type}{enc:TypeId×Value->H}{P:Program}{w:World}{O:BS}
theorem bo (U:∀b,¬O b){t e:TypeId}{z sz:Nat}{r:List Value}{x:DataW H×List MemPlace}(Z:P.underlying t=some (.slice e))(V:P.cellsOf e=sz)(Y:0<sz)(K:List PL->Prop)
  (s:∀(n:Nat) (r:List Value) (y:DataW H×List MemPlace),DataW.trod enc P w 0 (fun _=>true) true n e r=some y->∃c:List PL,c.length=sz/\K c/\∀(j:Nat) (d:PL),c[j]? =some d->∃u,r[j]? =some u/\Wt w O u d)
  (h:DataW.trod enc P w 0 (fun _=>true) true z t r=some x):∃v R o,r=[v]/\Wt w O v R/\Sl R o/\∀c∈o,K c:=by
 rcases DataW.trod_slice Z h with⟨rfl,-⟩|⟨a,m,q,B,rest,n,-,rfl,-,-,X,-,M,E,-,-⟩
 ·exact⟨_,.XC,[],rfl,.XC,.nil,fun _ h=>by cases h⟩
 ·have key:∀i,i<m->∃c:List PL,c.length=sz/\K c/\∀(j:Nat) (d:PL),c[j]? =some d->∃u,w.cell? ((a.add (i*sz)).add j)=some u/\Wt w O u d:=by
   intro i g;have J:=E i g;rw[Zf (by omega),V,Option.bind_eq_some_iff]at J;obtain⟨N,C,I⟩:=J;obtain⟨-,W,l⟩:=World.cells?_some C;obtain⟨c,Q,S,T⟩:=s n N _ I;refine⟨c,Q,S,fun j d p=> ?_⟩;obtain⟨u,k,F⟩:=T j d p;exact⟨u,by rw[l j (by have:=(Zb.1 p).1;omega)];exact k,F⟩
  obtain⟨o,L,f⟩:=lF m key;refine⟨_,.Xp o,o,rfl,?_,.Xp,fun c D=> ?_⟩
  ·by_cases h0:m=0
   ·subst h0;obtain rfl:=Yq L;exact Wt.FW a q
   ·obtain⟨b,A,sp⟩:=a;obtain⟨c,k1,-,k3⟩:=key 0 (by omega);obtain⟨u,k,-⟩:=k3 0 c[0] (Zf (by omega));have G:sp=none:=by
     have:=World.cell?_spot k;simpa[Addr.add]using this
    subst G;rw[<-L];refine .Xp b A sz q o (fun i j=>(w.cell? ⟨b,A+i*sz+j,none⟩).getD (.bool true)) (fun _ _ _ _ _ _=>U b) (by omega) (fun i c g=>(f i c g).1) (fun i c j d g p=> ?_) (fun i c j d g p=> ?_) (.inr rfl)
    ·obtain⟨u,k,-⟩:=(f i c g).2.2 j d p;rw[Us,Us]at k;rw[k];rfl
    ·obtain⟨u,k,F⟩:=(f i c g).2.2 j d p;rw[Us,Us]at k;rw[k];exact F
  ·obtain⟨i,g⟩:=List.getElem?_of_mem D;exact(f i c g).2.1
end
section
variable {H:Type}{enc:TypeId×Value->H}{w:World}{O:BS}
theorem wf_i8 {a:Int}(h:(Lit.int .i8 a).wf=true): -128<=a/\a<=127:=by
 simp[Lit.wf,IntKind.min,IntKind.max,IntKind.signed,IntKind.bits]at h;omega
theorem wf_u8 {a:Int}(h:(Lit.int .u8 a).wf=true):0<=a/\a<=255:=by
 simp[Lit.wf,IntKind.min,IntKind.max,IntKind.signed,IntKind.bits]at h;omega
theorem FJ (n:Nat)(g:List Value)(y:DataW H×List MemPlace)(h:DataW.trod enc Tryz.prog w 0 (fun _=>true) true n 110 g=some y):∃c:List PL,c.length=5/\mg c/\∀(j:Nat) (d:PL),c[j]? =some d->∃u,g[j]? =some u/\Wt w O u d:=by
 obtain⟨P,m,-,-,z,M,k⟩:=DataW.trod_array Tryz.underlying110 h;have A:g.length=5:=z.trans (by kernel_rfl);have v:Tryz.prog.cellsOf 38=1:=by kernel_rfl
 have b:∀i,i<5->∃a,g[i]? =some (.int .i8 a)/\-128<=a/\a<=127:=by
  intro i x;have s:=k i x;rw[Zf (by omega),v,ZX]at s;obtain⟨a,e,-,B⟩:=DataW.trod_int Tryz.underlying38 s;refine⟨a,?_,wf_i8 B⟩;have t:((g.drop i).take 1)[0]? =some (.int .i8 a):=by rw[e];rfl
  rw[Z7,Ye]at t;simpa using t
 obtain⟨l,C,I⟩:=b 0 (by omega);obtain⟨o,D,J⟩:=b 1 (by omega);obtain⟨p,E,K⟩:=b 2 (by omega);obtain⟨q,F,L⟩:=b 3 (by omega);obtain⟨r,G,N⟩:=b 4 (by omega);refine⟨nB l o p q r,rfl,⟨l,o,p,q,r,rfl,I,J,K,L⟩,fun j d f=> ?_⟩
 match j,f with
 |0,f=>cases f;exact⟨_,C,.int _ _⟩
 |1,f=>cases f;exact⟨_,D,.int _ _⟩
 |2,f=>cases f;exact⟨_,E,.int _ _⟩
 |3,f=>cases f;exact⟨_,F,.int _ _⟩
 |4,f=>cases f;exact⟨_,G,.int _ _⟩
 |j+5,f=>simp[nB]at f
theorem EO (l:∀b,¬O b){n:Nat}{a:List Value}{y:DataW H×List MemPlace}(h:DataW.trod enc Tryz.prog w 0 (fun _=>true) true n 27 a=some y):∃v R,a=[v]/\Wt w O v R/\UD R:=by
 obtain⟨r,m,-,-,o,q,d⟩:=DataW.trod_struct Tryz.underlying27 h;have p:a.length=1:=o.trans (by kernel_rfl);have c:DataW.trod enc Tryz.prog w 0 (fun _=>true) true m 25 ((a.drop 0).take (Tryz.prog.cellsOf 25))=r[0]? :=d 0 _ rfl;rw[Zf (by simp at q;omega)]at c;have k:(a.drop 0).take (Tryz.prog.cellsOf 25)=a:=by rw[show Tryz.prog.cellsOf 25=1 by kernel_rfl,Yb,Zd (by omega)]
 rw[k]at c;obtain⟨v,R,e,f,g,i,j⟩:=bo l Tryz.underlying25 (sz:=5) (by kernel_rfl) (by decide) mg FJ c;exact⟨v,R,f,g,e,i,j⟩
theorem FM (f:∀b,¬O b){n:Nat}{e:List Value}{y:DataW H×List MemPlace}(h:DataW.trod enc Tryz.prog w 0 (fun _=>true) true n 22 e=some y):∃v L,e=[v]/\Wt w O v L/\∃g,Sl L g/\∀c∈g,∃R,c=[R]/\UD R:=by
 obtain⟨v,L,i,k,l,m,o⟩:=bo f Tryz.underlying22 (sz:=1) (by kernel_rfl) (by decide) (fun c=>∃R,c=[R]/\UD R) (fun n e y p=>by
  obtain⟨v,R,rfl,q,r⟩:=EO f p;refine⟨[R],rfl,⟨R,rfl,r⟩,fun j d a=> ?_⟩
  match j,a with
  |0,a=>cases a;exact⟨v,rfl,q⟩
  |j+1,a=>simp at a) h
 exact⟨v,L,k,l,i,m,o⟩
theorem FK (n:Nat){b:List Value}{y:DataW H×List MemPlace}(h:DataW.trod enc Tryz.prog w 0 (fun _=>true) true n 5 b=some y):∃k,b=[.int .u8 (Int.ofNat k)]/\k<256:=by
 obtain⟨a,e,-,d⟩:=DataW.trod_int Tryz.underlying5 h;have c:=wf_u8 d;refine⟨a.toNat,?_,by omega⟩;rw[e,show Int.ofNat a.toNat=a from Int.toNat_of_nonneg c.1]
theorem FN (q:∀b,¬O b){n:Nat}{c:List Value}{y:DataW H×List MemPlace}(h:DataW.trod enc Tryz.prog w 0 (fun _=>true) true n 24 c=some y):∃v L k,c=[v,.int .u8 (Int.ofNat k)]/\k<256/\Wt w O v L/\ep L:=by
 obtain⟨l,m,-,-,s,j,a⟩:=DataW.trod_struct Tryz.underlying24 h;have d:c.length=2:=s.trans (by kernel_rfl)
 match c,d with
 |[c0,c1],_=>
  have g:DataW.trod enc Tryz.prog w 0 (fun _=>true) true m 22 (([c0,c1].drop 0).take (Tryz.prog.cellsOf 22))=l[0]? :=a 0 _ rfl;have i:DataW.trod enc Tryz.prog w 0 (fun _=>true) true m 5 (([c0,c1].drop 1).take (Tryz.prog.cellsOf 5))=l[1]? :=a 1 _ rfl;rw[Zf (by simp at j;omega),show Tryz.prog.cellsOf 22=1 by kernel_rfl]at g;rw[Zf (by simp at j;omega),show Tryz.prog.cellsOf 5=1 by kernel_rfl]at i;obtain⟨v,L,f,o,p⟩:=FM q g;obtain⟨k,e,r⟩:=FK _ i;simp at f e;subst f e;exact⟨c0,L,k,rfl,r,o,p⟩
theorem FO (C:∀b,¬O b){n:Nat}{f:List Value}{y:DataW H×List MemPlace}(h:DataW.trod enc Tryz.prog w 0 (fun _=>true) true n 28 f=some y):∃l o p g j k,f=[l,o,p]/\Wt w O l g/\Wt w O o j/\Wt w O p k/\UD g/\UD j/\UD k:=by
 obtain⟨Q,m,-,-,E,P,r⟩:=DataW.trod_array Tryz.underlying28 h;have s:f.length=3:=E.trans (by kernel_rfl);have B:Tryz.prog.cellsOf 27=1:=by kernel_rfl
 have d:∀i,i<3->∃v q,f[i]? =some v/\Wt w O v q/\UD q:=by
  intro i D;have t:=r i D;rw[Zf (by omega),B,ZX]at t;obtain⟨v,q,e,G,F⟩:=EO C t;refine⟨v,q,?_,G,F⟩;have u:((f.drop i).take 1)[0]? =some v:=by rw[e];rfl
  rw[Z7,Ye]at u;simpa using u
 obtain⟨l,g,x,I,L⟩:=d 0 (by omega);obtain⟨o,j,z,J,M⟩:=d 1 (by omega);obtain⟨p,k,A,K,N⟩:=d 2 (by omega);refine⟨l,o,p,g,j,k,?_,I,J,K,L,M,N⟩
 match f,s with
 |[a,b,c],_=>
  simp at x z A;rw[x,z,A]
theorem FI (n:Nat)(b:List Value)(y:DataW H×List MemPlace)(h:DataW.trod enc Tryz.prog w 0 (fun _=>true) true n 69 b=some y):∃c:List PL,c.length=8/\(∃r:List Int,r.length=8/\c=UE r)/\∀(j:Nat) (d:PL),c[j]? =some d->∃u,b[j]? =some u/\Wt w O u d:=by
 obtain⟨D,m,-,-,x,C,k⟩:=DataW.trod_array Tryz.underlying69 h;have A:b.length=8:=x.trans (by kernel_rfl);have t:Tryz.prog.cellsOf 3=1:=by kernel_rfl
 have g:∀i,i<8->∃a,b[i]? =some (.int .i64 a):=by
  intro i v;have p:=k i v;rw[Zf (by omega),t,ZX]at p;obtain⟨a,e,-,B⟩:=DataW.trod_int Tryz.underlying3 p;refine⟨a,?_⟩;have q:((b.drop i).take 1)[0]? =some (.int .i64 a):=by rw[e];rfl
  rw[Z7,Ye]at q;simpa using q
 obtain⟨r,s,l⟩:=lF (Q:=fun i a=>b[i]? =some (.int .i64 a)) 8 g;refine⟨UE r,by rw[UL];exact s,⟨r,s,rfl⟩,fun j d f=> ?_⟩;unfold UE at f;rw[ZA]at f;cases o:r[j]? with
 |none=>rw[o]at f;cases f
 |some z=>
  rw[o]at f;cases f;exact⟨_,l j z o,.int _ _⟩
theorem FL (p:∀b,¬O b){n:Nat}{f:List Value}{y:DataW H×List MemPlace}(h:DataW.trod enc Tryz.prog w 0 (fun _=>true) true n 40 f=some y):∃v i o,f=[v]/\Wt w O v i/\SG i o/\∀r∈o,r.length=8:=by
 obtain⟨v,R,a,j,k,l,m⟩:=bo p Tryz.underlying40 (sz:=8) (by kernel_rfl) (by decide) (fun c=>∃r:List Int,r.length=8/\c=UE r) FI h;have key:∀a:List (List PL),(∀c∈a,∃r:List Int,r.length=8/\c=UE r)->∃o:List (List Int),a=o.map UE/\∀r∈o,r.length=8:=by
  intro a;induction a with
  |nil=>intro _;exact⟨[],rfl,fun _ h=>by cases h⟩
  |cons c a s=>
   intro g;obtain⟨r,q,rfl⟩:=g c (Ze ..);obtain⟨o,rfl,d⟩:=s fun c h=>g c (Zc _ h)
   refine⟨r::o,rfl,fun x e=> ?_⟩;rcases Zj.1 e with rfl|e
   ·exact q
   ·exact d x e
 obtain⟨o,rfl,d⟩:=key a m;exact⟨v,R,o,j,k,l,d⟩
theorem DX {v:Value}(h:v.cells.toList.length≠1):∃c,v=.agg c:=by
 cases v<;>first |exact⟨_,rfl⟩|exact absurd rfl h
end
end Go.Proofs.YtidginchkjhobaaGreat
