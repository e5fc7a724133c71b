/- The orders of the laws, as the reference names them. -/
import Derived.Test.YtidginchkjhobaaGreatLaw
import Derived.Test.YtidginchkjhobaaGreatSanity
import Derived.Test.YtidginchkjhobaaGreatRows
import Derived.ProofKit
import Derived.OpenShut
set_option maxRecDepth 100000
namespace Go.Proofs.YtidginchkjhobaaGreat
open Go.Ev Go.Num
def CZ:N'->U'->Bool
 |[],[]=>true
 | .int .i64 z::ps,w::ws=>bif decide (z=w)then CZ ps ws else false
 |_,_=>false
def CY:I'->M'->Bool
 |[],[]=>true
 |p::ps,w::ws=>bif CZ p w then CY ps ws else false
 |_,_=>false
theorem mX:∀{b:N'} {c:U'},CZ b c=true->b=Vd c
 |[],[],_=>rfl
 | .int .i64 z::b,w::c,h=>by
   unfold CZ at h;cases a:decide (z=w)with
   |false=>rw[a]at h;cases h
   |true=>
    rw[a,cond_true]at h;rw[of_decide_eq_true a,mX h];rfl
theorem dV:∀{b:I'} {c:M'},CY b c=true->b=c.map Vd
 |[],[],_=>rfl
 |p::b,w::c,h=>by
  unfold CY at h;cases a:CZ p w with
  |false=>rw[a]at h;cases h
  |true=>
   rw[a,cond_true]at h;rw[mX a,dV h];rfl
def A5 (k:Nat):Option PV->Bool
 |some (.one (.Xn es))=>CY es (U0 k)
 |some (.one .Xq)=>(U0 k).isEmpty
 |_=>false
theorem A4:((List.range 256).all fun k=>A5 k ((BB.E 1000 12).pure 15 [.one (.int .u8 (.ofNat k))]))=true:=by kernel_rfl
def Hc (k:Nat):Nat:=if k%8<6 then k%8 else 6+8*(k / 8%16)
theorem EL:((List.range 256).all fun k=>Nat.blt (Hc k) 128&&CY ((U0 k).map Vd) (U0 (Hc k)))=true:=by kernel_rfl
def Fb:Option PV->Bool
 |some (.one (.bool true))=>true
 |_=>false
noncomputable def SS (lo:PL):Bool:=Fb ((BB.E 1000 12).pure 50 [.one lo])&&Fb ((BB.E 1000 12).pure 22 [.one lo])
theorem KE:SS (.Xn ((U0 0).map Vd))=true:=by kernel_rfl
theorem KD:SS (.Xn ((U0 1).map Vd))=true:=by kernel_rfl
theorem KC:SS (.Xn ((U0 2).map Vd))=true:=by kernel_rfl
theorem KB:SS (.Xn ((U0 3).map Vd))=true:=by kernel_rfl
theorem KA:SS (.Xn ((U0 4).map Vd))=true:=by kernel_rfl
theorem Kz:SS (.Xn ((U0 5).map Vd))=true:=by kernel_rfl
theorem Ky:SS (.Xn ((U0 6).map Vd))=true:=by kernel_rfl
theorem I9:SS (.Xn ((U0 14).map Vd))=true:=by kernel_rfl
theorem I8:SS (.Xn ((U0 22).map Vd))=true:=by kernel_rfl
theorem I7:SS (.Xn ((U0 30).map Vd))=true:=by kernel_rfl
theorem I6:SS (.Xn ((U0 38).map Vd))=true:=by kernel_rfl
theorem I5:SS (.Xn ((U0 46).map Vd))=true:=by kernel_rfl
theorem I4:SS (.Xn ((U0 54).map Vd))=true:=by kernel_rfl
theorem I3:SS (.Xn ((U0 62).map Vd))=true:=by kernel_rfl
theorem I2:SS (.Xn ((U0 70).map Vd))=true:=by kernel_rfl
theorem I1:SS (.Xn ((U0 78).map Vd))=true:=by kernel_rfl
theorem I0:SS (.Xn ((U0 86).map Vd))=true:=by kernel_rfl
theorem IZ:SS (.Xn ((U0 94).map Vd))=true:=by kernel_rfl
theorem GM:SS (.Xn ((U0 102).map Vd))=true:=by kernel_rfl
theorem GL:SS (.Xn ((U0 110).map Vd))=true:=by kernel_rfl
theorem GK:SS (.Xn ((U0 118).map Vd))=true:=by kernel_rfl
theorem GJ:SS (.Xn ((U0 126).map Vd))=true:=by kernel_rfl
theorem D7 {k:Nat}(h:k∈[0,1,2,3,4,5]++(List.range 16).map fun j=>6+8*j):SS (.Xn ((U0 k).map Vd))=true:=by
 have e:[0,1,2,3,4,5]++(List.range 16).map (fun j=>6+8*j)=[0,1,2,3,4,5,6,14,22,30,38,46,54,62,70,78,86,94,102,110,118,126]:=rfl;rw[e]at h;simp only[Zj,ZV,or_false]at h;rcases h with rfl|rfl|rfl|rfl|rfl|rfl|rfl|rfl|rfl|rfl|rfl|rfl|rfl|rfl|rfl|rfl|rfl|rfl|rfl|rfl|rfl|rfl
 ·exact KE
 ·exact KD
 ·exact KC
 ·exact KB
 ·exact KA
 ·exact Kz
 ·exact Ky
 ·exact I9
 ·exact I8
 ·exact I7
 ·exact I6
 ·exact I5
 ·exact I4
 ·exact I3
 ·exact I2
 ·exact I1
 ·exact I0
 ·exact IZ
 ·exact GM
 ·exact GL
 ·exact GK
 ·exact GJ
theorem D6:SS .Xq=true:=by kernel_rfl
theorem xe {r:Option PV}(h:Fb r=true):r=some (.one (.bool true)):=by
 unfold Fb at h;split at h
 ·rfl
 ·cases h
theorem Bp:∀{a b:M'},a.map Vd=b.map Vd->a=b:=fun{a b} h=>by
 have c:∀{x y:U'},Vd x=Vd y->x=y:=fun{x y} e=>by
  have:=congrArg (List.map fun p=>match p with |PL.int _ z=>z|_=>0) e;unfold Vd at this;simpa[List.map_map,Function.comp_def]using this
 exact(List.map_inj_right fun x y=>c).1 h
theorem Kx {k:Nat}(a:k<256):SS (.Xn ((U0 k).map Vd))=true:=by
 have h:=ZI.1 EL k (List.mem_range.2 a);rw[Zs]at h;rw[Bp (dV h.2)];refine D7 (ZW.2 ?_);unfold Hc;split
 ·left;have :k%8<6:=by assumption
  generalize k%8=j at *;simp only[Zj,ZV,or_false];omega
 ·right;exact ZM.2 ⟨k / 8%16,List.mem_range.2 (by omega),rfl⟩
theorem A3 {k:Nat}(d:k<256):∃a,Xu BB 15 [.one (.int .u8 (.ofNat k))] (.one a)/\TR a (U0 k)/\Xu BB 50 [.one a] (.one (.bool true))/\Xu BB 22 [.one a] (.one (.bool true)):=by
 have h:=ZI.1 A4 k (List.mem_range.2 d);have b:∀a,SS a=true->Xu BB 50 [.one a] (.one (.bool true))/\Xu BB 22 [.one a] (.one (.bool true)):=fun a h=>by
  unfold SS at h;rw[Zs]at h;exact⟨⟨1000,12,xe h.1⟩,⟨1000,12,xe h.2⟩⟩
 unfold A5 at h;split at h
 ·rename_i f e;have c:=dV h;exact⟨.Xn f,⟨1000,12,e⟩,by unfold TR;rw[<-c];exact .Xn,b _ (by rw[c];exact Kx d)⟩
 ·rename_i e;have :U0 k=[]:=List.isEmpty_iff.1 h;exact⟨.Xq,⟨1000,12,e⟩,by unfold TR;rw[this];exact .nil,b _ D6⟩
 ·cases h
open Go.Ev Go.ChangeShapes Go.WideShapes Go.ChangeAt Go.RowKit
theorem wX {g:Type}{Q:Nat->g->Prop}:∀(n:Nat),(∀i,i<n->∃c,Q i c)->∃b:List g,b.length=n/\∀i c,b[i]? =some c->Q i c
 |0,_=>⟨[],rfl,fun i c h=>by simp at h⟩
 |n+1,h=>by
  obtain⟨b,j,k⟩:=wX n (fun i f=>h i (by omega));obtain⟨c,l⟩:=h n (by omega);refine⟨b++[c],by simp[j],fun i d a=> ?_⟩;by_cases f:i<b.length
  ·rw[ZA f]at a;exact k i d a
  ·rw[ZJ (by omega)]at a;have e:i-b.length=0:=by
    have:=(Zf.1 a).1;simp at this;omega
   rw[e]at a;simp only[Ym,Za]at a;subst a;have :i=n:=by omega
   subst this;exact l
section
variable {H:Type}{enc:TypeId×Value->H}{P:Program}{w:World}{O:BS}
theorem lF (U:∀b,¬O b){t e:TypeId}{z sz:Nat}{r:List Value}{x:DataW H×List MemPlace}(Z:P.underlying t=some (.slice e))(V:P.cellsOf e=sz)(Y:0<sz)(K:N'->Prop)
  (s:∀(n:Nat) (r:List Value) (y:DataW H×List MemPlace),DataW.trod enc P w 0 (fun _=>true) true n e r=some y->∃c:N',c.length=sz/\K c/\∀(j:Nat) (d:PL),c[j]? =some d->∃u,r[j]? =some u/\Ws w O u d)
  (h:DataW.trod enc P w 0 (fun _=>true) true z t r=some x):∃v R o,r=[v]/\Ws w O v R/\Sl R o/\∀c∈o,K c:=by
 rcases DataW.trod_slice Z h with⟨rfl,-⟩|⟨a,m,q,B,rest,n,-,rfl,-,-,X,-,M,E,-,-⟩
 ·exact⟨_,.Xq,[],rfl,.Xq,.nil,fun _ h=>by cases h⟩
 ·have key:∀i,i<m->∃c:N',c.length=sz/\K c/\∀(j:Nat) (d:PL),c[j]? =some d->∃u,w.cell? ((a.add (i*sz)).add j)=some u/\Ws w O u d:=by
   intro i g;have J:=E i g;rw[Zg (by omega),V,Option.bind_eq_some_iff]at J;obtain⟨N,C,I⟩:=J;obtain⟨-,W,l⟩:=World.cells?_some C;obtain⟨c,Q,S,T⟩:=s n N _ I;refine⟨c,Q,S,fun j d p=> ?_⟩;obtain⟨u,k,F⟩:=T j d p;exact⟨u,by rw[l j (by have:=(Zf.1 p).1;omega)];exact k,F⟩
  obtain⟨o,L,f⟩:=wX m key;refine⟨_,.Xn o,o,rfl,?_,.Xn,fun c D=> ?_⟩
  ·by_cases h0:m=0
   ·subst h0;obtain rfl:=Ye L;exact Ws.KV a q
   ·obtain⟨b,A,sp⟩:=a;obtain⟨c,k1,-,k3⟩:=key 0 (by omega);obtain⟨u,k,-⟩:=k3 0 c[0] (Zg (by omega));have G:sp=none:=by
     have:=World.cell?_spot k;simpa[Addr.add]using this
    subst G;rw[<-L];refine .Xn b A sz q o (fun i j=>(w.cell? ⟨b,A+i*sz+j,none⟩).getD (.bool true)) (fun _ _ _ _ _ _=>U b) (by omega) (fun i c g=>(f i c g).1) (fun i c j d g p=> ?_) (fun i c j d g p=> ?_) (.inr rfl)
    ·obtain⟨u,k,-⟩:=(f i c g).2.2 j d p;rw[UN,UN]at k;rw[k];rfl
    ·obtain⟨u,k,F⟩:=(f i c g).2.2 j d p;rw[UN,UN]at k;rw[k];exact F
  ·obtain⟨i,g⟩:=List.getElem?_of_mem D;exact(f i c g).2.1
end
section
variable {H:Type}{enc:TypeId×Value->H}{w:World}{O:BS}
theorem wf_i8 {a:Int}(h:(Lit.int .i8 a).wf=true): -128<=a/\a<=127:=by
 simp[Lit.wf,IntKind.min,IntKind.max,IntKind.signed,IntKind.bits]at h;omega
theorem wf_u8 {a:Int}(h:(Lit.int .u8 a).wf=true):0<=a/\a<=255:=by
 simp[Lit.wf,IntKind.min,IntKind.max,IntKind.signed,IntKind.bits]at h;omega
theorem KH (n:Nat)(g:List Value)(y:DataW H×List MemPlace)(h:DataW.trod enc Tryz.prog w 0 (fun _=>true) true n 110 g=some y):∃c:N',c.length=5/\pC c/\∀(j:Nat) (d:PL),c[j]? =some d->∃u,g[j]? =some u/\Ws w O u d:=by
 obtain⟨P,m,-,-,z,M,k⟩:=DataW.trod_array Tryz.underlying110 h;have A:g.length=5:=z.trans (by kernel_rfl);have v:Tryz.prog.cellsOf 38=1:=by kernel_rfl
 have b:∀i,i<5->∃a,g[i]? =some (.int .i8 a)/\-128<=a/\a<=127:=by
  intro i x;have s:=k i x;rw[Zg (by omega),v,Yr]at s;obtain⟨a,e,-,B⟩:=DataW.trod_int Tryz.underlying38 s;refine⟨a,?_,wf_i8 B⟩;have t:((g.drop i).take 1)[0]? =some (.int .i8 a):=by rw[e];rfl
  rw[Z8,Yk]at t;simpa using t
 obtain⟨l,C,I⟩:=b 0 (by omega);obtain⟨o,D,J⟩:=b 1 (by omega);obtain⟨p,E,K⟩:=b 2 (by omega);obtain⟨q,F,L⟩:=b 3 (by omega);obtain⟨r,G,N⟩:=b 4 (by omega);refine⟨qY l o p q r,rfl,⟨l,o,p,q,r,rfl,I,J,K,L⟩,fun j d f=> ?_⟩
 match j,f with
 |0,f=>cases f;exact⟨_,C,.int _ _⟩
 |1,f=>cases f;exact⟨_,D,.int _ _⟩
 |2,f=>cases f;exact⟨_,E,.int _ _⟩
 |3,f=>cases f;exact⟨_,F,.int _ _⟩
 |4,f=>cases f;exact⟨_,G,.int _ _⟩
 |j+5,f=>simp[qY]at f
theorem Js (l:∀b,¬O b){n:Nat}{a:List Value}{y:DataW H×List MemPlace}(h:DataW.trod enc Tryz.prog w 0 (fun _=>true) true n 27 a=some y):∃v R,a=[v]/\Ws w O v R/\QR R:=by
 obtain⟨r,m,-,-,o,q,d⟩:=DataW.trod_struct Tryz.underlying27 h;have p:a.length=1:=o.trans (by kernel_rfl);have c:DataW.trod enc Tryz.prog w 0 (fun _=>true) true m 25 ((a.drop 0).take (Tryz.prog.cellsOf 25))=r[0]? :=d 0 _ rfl;rw[Zg (by simp at q;omega)]at c;have k:(a.drop 0).take (Tryz.prog.cellsOf 25)=a:=by rw[show Tryz.prog.cellsOf 25=1 by kernel_rfl,Yh,Zd (by omega)]
 rw[k]at c;obtain⟨v,R,e,f,g,i,j⟩:=lF l Tryz.underlying25 (sz:=5) (by kernel_rfl) (by decide) pC KH c;exact⟨v,R,f,g,e,i,j⟩
theorem KK (f:∀b,¬O b){n:Nat}{e:List Value}{y:DataW H×List MemPlace}(h:DataW.trod enc Tryz.prog w 0 (fun _=>true) true n 22 e=some y):∃v L,e=[v]/\Ws w O v L/\∃g,Sl L g/\∀c∈g,∃R,c=[R]/\QR R:=by
 obtain⟨v,L,i,k,l,m,o⟩:=lF f Tryz.underlying22 (sz:=1) (by kernel_rfl) (by decide) (fun c=>∃R,c=[R]/\QR R) (fun n e y p=>by
  obtain⟨v,R,rfl,q,r⟩:=Js f p;refine⟨[R],rfl,⟨R,rfl,r⟩,fun j d a=> ?_⟩
  match j,a with
  |0,a=>cases a;exact⟨v,rfl,q⟩
  |j+1,a=>simp at a) h
 exact⟨v,L,k,l,i,m,o⟩
theorem KJ (n:Nat){b:List Value}{y:DataW H×List MemPlace}(h:DataW.trod enc Tryz.prog w 0 (fun _=>true) true n 5 b=some y):∃k,b=[.int .u8 (Int.ofNat k)]/\k<256:=by
 obtain⟨a,e,-,d⟩:=DataW.trod_int Tryz.underlying5 h;have c:=wf_u8 d;refine⟨a.toNat,?_,by omega⟩;rw[e,show Int.ofNat a.toNat=a from Int.toNat_of_nonneg c.1]
theorem KL (q:∀b,¬O b){n:Nat}{c:List Value}{y:DataW H×List MemPlace}(h:DataW.trod enc Tryz.prog w 0 (fun _=>true) true n 24 c=some y):∃v L k,c=[v,.int .u8 (Int.ofNat k)]/\k<256/\Ws w O v L/\gr L:=by
 obtain⟨l,m,-,-,s,j,a⟩:=DataW.trod_struct Tryz.underlying24 h;have d:c.length=2:=s.trans (by kernel_rfl)
 match c,d with
 |[c0,c1],_=>
  have g:DataW.trod enc Tryz.prog w 0 (fun _=>true) true m 22 (([c0,c1].drop 0).take (Tryz.prog.cellsOf 22))=l[0]? :=a 0 _ rfl;have i:DataW.trod enc Tryz.prog w 0 (fun _=>true) true m 5 (([c0,c1].drop 1).take (Tryz.prog.cellsOf 5))=l[1]? :=a 1 _ rfl;rw[Zg (by simp at j;omega),show Tryz.prog.cellsOf 22=1 by kernel_rfl]at g;rw[Zg (by simp at j;omega),show Tryz.prog.cellsOf 5=1 by kernel_rfl]at i;obtain⟨v,L,f,o,p⟩:=KK q g;obtain⟨k,e,r⟩:=KJ _ i;simp at f e;subst f e;exact⟨c0,L,k,rfl,r,o,p⟩
theorem Jt (n:Nat){b:List Value}{y:DataW H×List MemPlace}(h:DataW.trod enc Tryz.prog w 0 (fun _=>true) true n 38 b=some y):∃c:Int,b=[.int .i8 c]/\-128<=c/\c<=127:=by
 obtain⟨a,e,-,d⟩:=DataW.trod_int Tryz.underlying38 h;exact⟨a,e,wf_i8 d⟩
end
end Go.Proofs.YtidginchkjhobaaGreat
