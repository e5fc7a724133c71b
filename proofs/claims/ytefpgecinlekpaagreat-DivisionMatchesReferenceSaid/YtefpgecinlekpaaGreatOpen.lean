/- Opening the raw arguments. -/
import Derived.Test.YtefpgecinlekpaaGreatSanity
import Derived.Test.YtefpgecinlekpaaGreatRows
import Derived.ProofKit
import Derived.OpenShut
set_option maxRecDepth 100000
namespace Go.Proofs.YtefpgecinlekpaaGreat
open Go.Ev Go.ChangeShapes Go.WideShapes Go.ChangeAt Go.RowKit
theorem tw {g:Type}{Q:Nat->g->Prop}:∀(n:Nat),(∀i,i<n->∃c,Q i c)->∃b:List g,b.length=n/\∀i c,b[i]? =some c->Q i c
 |0,_=>⟨[],rfl,fun i c h=>by simp at h⟩
 |n+1,h=>by
  obtain⟨b,j,k⟩:=tw n (fun i f=>h i (by omega));obtain⟨c,l⟩:=h n (by omega);refine⟨b++[c],by simp[j],fun i d a=> ?_⟩;by_cases f:i<b.length
  ·rw[ZC f]at a;exact k i d a
  ·rw[ZI (by omega)]at a;have e:i-b.length=0:=by
    have:=(Zd.1 a).1;simp at this;omega
   rw[e]at a;simp only[Yq,Za]at a;subst a;have :i=n:=by omega
   subst this;exact l
section
variable {H:Type}{enc:TypeId×Value->H}{P:Program}{w:World}{O:BS}
theorem iV (U:∀b,¬O b){t e:TypeId}{z sz:Nat}{r:List Value}{x:DataW H×List MemPlace}(Z:P.underlying t=some (.slice e))(V:P.cellsOf e=sz)(Y:0<sz)(K:List PL->Prop)
  (s:∀(n:Nat) (r:List Value) (y:DataW H×List MemPlace),DataW.trod enc P w 0 (fun _=>true) true n e r=some y->∃c:List PL,c.length=sz/\K c/\∀(j:Nat) (d:PL),c[j]? =some d->∃u,r[j]? =some u/\WE w O u d)
  (h:DataW.trod enc P w 0 (fun _=>true) true z t r=some x):∃v R o,r=[v]/\WE w O v R/\Sl R o/\∀c∈o,K c:=by
 rcases DataW.trod_slice Z h with⟨rfl,-⟩|⟨a,m,q,B,rest,n,-,rfl,-,-,X,-,M,E,-,-⟩
 ·exact⟨_,.XJ,[],rfl,.XJ,.nil,fun _ h=>by cases h⟩
 ·have key:∀i,i<m->∃c:List PL,c.length=sz/\K c/\∀(j:Nat) (d:PL),c[j]? =some d->∃u,w.cell? ((a.add (i*sz)).add j)=some u/\WE w O u d:=by
   intro i g;have J:=E i g;rw[Zg (by omega),V,Option.bind_eq_some_iff]at J;obtain⟨N,C,I⟩:=J;obtain⟨-,W,l⟩:=World.cells?_some C;obtain⟨c,Q,S,T⟩:=s n N _ I;refine⟨c,Q,S,fun j d p=> ?_⟩;obtain⟨u,k,F⟩:=T j d p;exact⟨u,by rw[l j (by have:=(Zd.1 p).1;omega)];exact k,F⟩
  obtain⟨o,L,f⟩:=tw m key;refine⟨_,.Xv o,o,rfl,?_,.Xv,fun c D=> ?_⟩
  ·by_cases h0:m=0
   ·subst h0;obtain rfl:=Yk L;exact WE.Gd a q
   ·obtain⟨b,A,sp⟩:=a;obtain⟨c,k1,-,k3⟩:=key 0 (by omega);obtain⟨u,k,-⟩:=k3 0 c[0] (Zg (by omega));have G:sp=none:=by
     have:=World.cell?_spot k;simpa[Addr.add]using this
    subst G;rw[<-L];refine .Xv b A sz q o (fun i j=>(w.cell? ⟨b,A+i*sz+j,none⟩).getD (.bool true)) (fun _ _ _ _ _ _=>U b) (by omega) (fun i c g=>(f i c g).1) (fun i c j d g p=> ?_) (fun i c j d g p=> ?_) (.inr rfl)
    ·obtain⟨u,k,-⟩:=(f i c g).2.2 j d p;rw[Us,Us]at k;rw[k];rfl
    ·obtain⟨u,k,F⟩:=(f i c g).2.2 j d p;rw[Us,Us]at k;rw[k];exact F
  ·obtain⟨i,g⟩:=List.getElem?_of_mem D;exact(f i c g).2.1
end
section
variable {H:Type}{enc:TypeId×Value->H}{w:World}{O:BS}
theorem wf_i8 {a:Int}(h:(Lit.int .i8 a).wf=true): -128<=a/\a<=127:=by
 simp[Lit.wf,IntKind.min,IntKind.max,IntKind.signed,IntKind.bits]at h;omega
theorem wf_u8 {a:Int}(h:(Lit.int .u8 a).wf=true):0<=a/\a<=255:=by
 simp[Lit.wf,IntKind.min,IntKind.max,IntKind.signed,IntKind.bits]at h;omega
theorem F3 (n:Nat)(g:List Value)(y:DataW H×List MemPlace)(h:DataW.trod enc Tryz.prog w 0 (fun _=>true) true n 106 g=some y):∃c:List PL,c.length=5/\lY c/\∀(j:Nat) (d:PL),c[j]? =some d->∃u,g[j]? =some u/\WE w O u d:=by
 obtain⟨P,m,-,-,z,M,k⟩:=DataW.trod_array Tryz.underlying106 h;have A:g.length=5:=z.trans (by kernel_rfl);have v:Tryz.prog.cellsOf 71=1:=by kernel_rfl
 have b:∀i,i<5->∃a,g[i]? =some (.int .i8 a)/\-128<=a/\a<=127:=by
  intro i x;have s:=k i x;rw[Zg (by omega),v,Yf]at s;obtain⟨a,e,-,B⟩:=DataW.trod_int Tryz.underlying71 s;refine⟨a,?_,wf_i8 B⟩;have t:((g.drop i).take 1)[0]? =some (.int .i8 a):=by rw[e];rfl
  rw[Yc,Yd]at t;simpa using t
 obtain⟨l,C,I⟩:=b 0 (by omega);obtain⟨o,D,J⟩:=b 1 (by omega);obtain⟨p,E,K⟩:=b 2 (by omega);obtain⟨q,F,L⟩:=b 3 (by omega);obtain⟨r,G,N⟩:=b 4 (by omega);refine⟨nr l o p q r,rfl,⟨l,o,p,q,r,rfl,I,J,K,L⟩,fun j d f=> ?_⟩
 match j,f with
 |0,f=>cases f;exact⟨_,C,.int _ _⟩
 |1,f=>cases f;exact⟨_,D,.int _ _⟩
 |2,f=>cases f;exact⟨_,E,.int _ _⟩
 |3,f=>cases f;exact⟨_,F,.int _ _⟩
 |4,f=>cases f;exact⟨_,G,.int _ _⟩
 |j+5,f=>simp[nr]at f
theorem EX (l:∀b,¬O b){n:Nat}{a:List Value}{y:DataW H×List MemPlace}(h:DataW.trod enc Tryz.prog w 0 (fun _=>true) true n 24 a=some y):∃v R,a=[v]/\WE w O v R/\Rp R:=by
 obtain⟨r,m,-,-,o,q,d⟩:=DataW.trod_struct Tryz.underlying24 h;have p:a.length=1:=o.trans (by kernel_rfl);have c:DataW.trod enc Tryz.prog w 0 (fun _=>true) true m 22 ((a.drop 0).take (Tryz.prog.cellsOf 22))=r[0]? :=d 0 _ rfl;rw[Zg (by simp at q;omega)]at c;have k:(a.drop 0).take (Tryz.prog.cellsOf 22)=a:=by rw[show Tryz.prog.cellsOf 22=1 by kernel_rfl,Ye,Zb (by omega)]
 rw[k]at c;obtain⟨v,R,e,f,g,i,j⟩:=iV l Tryz.underlying22 (sz:=5) (by kernel_rfl) (by decide) lY F3 c;exact⟨v,R,f,g,e,i,j⟩
theorem EY (f:∀b,¬O b){n:Nat}{e:List Value}{y:DataW H×List MemPlace}(h:DataW.trod enc Tryz.prog w 0 (fun _=>true) true n 25 e=some y):∃v L,e=[v]/\WE w O v L/\∃g,Sl L g/\∀c∈g,∃R,c=[R]/\Rp R:=by
 obtain⟨v,L,i,k,l,m,o⟩:=iV f Tryz.underlying25 (sz:=1) (by kernel_rfl) (by decide) (fun c=>∃R,c=[R]/\Rp R) (fun n e y p=>by
  obtain⟨v,R,rfl,q,r⟩:=EX f p;refine⟨[R],rfl,⟨R,rfl,r⟩,fun j d a=> ?_⟩
  match j,a with
  |0,a=>cases a;exact⟨v,rfl,q⟩
  |j+1,a=>simp at a) h
 exact⟨v,L,k,l,i,m,o⟩
theorem F6 (n:Nat){b:List Value}{y:DataW H×List MemPlace}(h:DataW.trod enc Tryz.prog w 0 (fun _=>true) true n 5 b=some y):∃k,b=[.int .u8 (Int.ofNat k)]/\k<256:=by
 obtain⟨a,e,-,d⟩:=DataW.trod_int Tryz.underlying5 h;have c:=wf_u8 d;refine⟨a.toNat,?_,by omega⟩;rw[e,show Int.ofNat a.toNat=a from Int.toNat_of_nonneg c.1]
theorem F7 (s:∀b,¬O b){n:Nat}{d:List Value}{y:DataW H×List MemPlace}(h:DataW.trod enc Tryz.prog w 0 (fun _=>true) true n 27 d=some y):∃v L k,d=[v,.int .u8 (Int.ofNat k)]/\k<256/\WE w O v L/\∃o,Sl L o/\∀c∈o,∃R,c=[R]/\Rp R:=by
 obtain⟨p,m,-,-,u,l,a⟩:=DataW.trod_struct Tryz.underlying27 h;have f:d.length=2:=u.trans (by kernel_rfl)
 match d,f with
 |[c0,c1],_=>
  have i:DataW.trod enc Tryz.prog w 0 (fun _=>true) true m 25 (([c0,c1].drop 0).take (Tryz.prog.cellsOf 25))=p[0]? :=a 0 _ rfl;have j:DataW.trod enc Tryz.prog w 0 (fun _=>true) true m 5 (([c0,c1].drop 1).take (Tryz.prog.cellsOf 5))=p[1]? :=a 1 _ rfl;rw[Zg (by simp at l;omega),show Tryz.prog.cellsOf 25=1 by kernel_rfl]at i;rw[Zg (by simp at l;omega),show Tryz.prog.cellsOf 5=1 by kernel_rfl]at j;obtain⟨v,L,g,q,r⟩:=EY s i;obtain⟨k,e,t⟩:=F6 _ j;simp at g e;subst g e;exact⟨c0,L,k,rfl,t,q,r⟩
end
end Go.Proofs.YtefpgecinlekpaaGreat
