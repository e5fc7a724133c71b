/- Opening the raw arguments. -/
import Derived.Test.YtefpgecinlekpaaGreatSanity
import Derived.Test.YtefpgecinlekpaaGreatRows
import Derived.ProofKit
import Derived.OpenShut
set_option maxRecDepth 100000
namespace Go.Proofs.YtefpgecinlekpaaGreat
open Go.Ev Go.ChangeShapes Go.WideShapes Go.ChangeAt Go.RowKit
theorem list_of {α:Type}{Q:Nat->α->Prop}:∀(n:Nat),(∀i,i<n->∃c,Q i c)->∃es:List α,es.length=n/\∀i c,es[i]? =some c->Q i c
 |0,_=>⟨[],rfl,fun i c h=>by simp at h⟩
 |n+1,h=>by
  obtain⟨es,h1,h2⟩:=list_of n (fun i hi=>h i (by omega))
  obtain⟨c,hc⟩:=h n (by omega)
  refine⟨es++[c],by simp[h1],fun i d hd=> ?_⟩
  by_cases hi:i<es.length
  ·rw[Zy hi]at hd;exact h2 i d hd
  ·rw[ZB (by omega)]at hd
   have e:i-es.length=0:=by
    have:=(Zb.1 hd).1
    simp at this;omega
   rw[e]at hd
   simp only[YL,Za]at hd
   subst hd
   have :i=n:=by omega
   subst this;exact hc
section
variable {H:Type}{enc:TypeId×Value->H}{P:Program}{w:World}{O:BS}
theorem slice_rep (hO:∀b,¬O b){t e:TypeId}{fuel sz:Nat}{cs:List Value}{x:DataW H×List MemPlace}(ht:P.underlying t=some (.slice e))(hc:P.cellsOf e=sz)(hsz:0<sz)(K:List PL->Prop)
  (elem:∀(n:Nat) (cs:List Value) (y:DataW H×List MemPlace),DataW.trod enc P w 0 (fun _=>true) true n e cs=some y->∃c:List PL,c.length=sz/\K c/\∀(j:Nat) (d:PL),c[j]? =some d->∃u,cs[j]? =some u/\RepP w O u d)
  (h:DataW.trod enc P w 0 (fun _=>true) true fuel t cs=some x):∃v R es,cs=[v]/\RepP w O v R/\Sl R es/\∀c∈es,K c:=by
 rcases DataW.trod_slice ht h with⟨rfl,-⟩|⟨a,len,cap,elems,rest,n,-,rfl,-,-,hlc,-,hlen,hel,-,-⟩
 ·exact⟨_,.nilS,[],rfl,.nilS,.nil,fun _ h=>by cases h⟩
 ·have key:∀i,i<len->∃c:List PL,c.length=sz/\K c/\∀(j:Nat) (d:PL),c[j]? =some d->∃u,w.cell? ((a.add (i*sz)).add j)=some u/\RepP w O u d:=by
   intro i hi
   have h1:=hel i hi
   rw[Zf (by omega),hc,Option.bind_eq_some_iff]at h1
   obtain⟨ci,hci,hti⟩:=h1
   obtain⟨-,hcl,hcell⟩:=World.cells?_some hci
   obtain⟨c,g1,g2,g3⟩:=elem n ci _ hti
   refine⟨c,g1,g2,fun j d hj=> ?_⟩
   obtain⟨u,hu,hr⟩:=g3 j d hj
   exact⟨u,by rw[hcell j (by have:=(Zb.1 hj).1;omega)];exact hu,hr⟩
  obtain⟨es,hl,hes⟩:=list_of len key
  refine⟨_,.lst es,es,rfl,?_,.lst,fun c hcm=> ?_⟩
  ·by_cases h0:len=0
   ·subst h0
    obtain rfl:=YB hl
    exact RepP.emp a cap
   ·obtain⟨b,off,sp⟩:=a
    obtain⟨c,k1,-,k3⟩:=key 0 (by omega)
    obtain⟨u,hu,-⟩:=k3 0 c[0] (Zf (by omega))
    have hsp:sp=none:=by
     have:=World.cell?_spot hu
     simpa[Addr.add]using this
    subst hsp
    rw[<-hl]
    refine .lst b off sz cap es (fun i j=>(w.cell? ⟨b,off+i*sz+j,none⟩).getD (.bool true)) (fun _ _ _ _ _ _=>hO b) (by omega) (fun i c hi=>(hes i c hi).1) (fun i c j d hi hj=> ?_) (fun i c j d hi hj=> ?_) (.inr rfl)
    ·obtain⟨u,hu,-⟩:=(hes i c hi).2.2 j d hj
     rw[Vs,Vs]at hu
     rw[hu];rfl
    ·obtain⟨u,hu,hr⟩:=(hes i c hi).2.2 j d hj
     rw[Vs,Vs]at hu
     rw[hu];exact hr
  ·obtain⟨i,hi⟩:=List.getElem?_of_mem hcm
   exact(hes i c hi).2.1
end
section
variable {H:Type}{enc:TypeId×Value->H}{w:World}{O:BS}
theorem wf_i8 {a:Int}(h:(Lit.int .i8 a).wf=true): -128<=a/\a<=127:=by
 simp[Lit.wf,IntKind.min,IntKind.max,IntKind.signed,IntKind.bits]at h
 omega
theorem wf_u8 {a:Int}(h:(Lit.int .u8 a).wf=true):0<=a/\a<=255:=by
 simp[Lit.wf,IntKind.min,IntKind.max,IntKind.signed,IntKind.bits]at h
 omega
theorem row5 (n:Nat)(cs:List Value)(y:DataW H×List MemPlace)(h:DataW.trod enc Tryz.prog w 0 (fun _=>true) true n 106 cs=some y):∃c:List PL,c.length=5/\RawRow c/\∀(j:Nat) (d:PL),c[j]? =some d->∃u,cs[j]? =some u/\RepP w O u d:=by
 obtain⟨xs,m,-,-,hl,hx,hel⟩:=DataW.trod_array Tryz.underlying106 h
 have hl5:cs.length=5:=hl.trans (by kernel_rfl)
 have h1:Tryz.prog.cellsOf 71=1:=by kernel_rfl
 have each:∀i,i<5->∃a,cs[i]? =some (.int .i8 a)/\-128<=a/\a<=127:=by
  intro i hi
  have h2:=hel i hi
  rw[Zf (by omega),h1,Yd]at h2
  obtain⟨a,e,-,hw⟩:=DataW.trod_int Tryz.underlying71 h2
  refine⟨a,?_,wf_i8 hw⟩
  have h3:((cs.drop i).take 1)[0]? =some (.int .i8 a):=by rw[e];rfl
  rw[Z7,Z8]at h3
  simpa using h3
 obtain⟨a0,p0,q0⟩:=each 0 (by omega)
 obtain⟨a1,p1,q1⟩:=each 1 (by omega)
 obtain⟨a2,p2,q2⟩:=each 2 (by omega)
 obtain⟨a3,p3,q3⟩:=each 3 (by omega)
 obtain⟨a4,p4,q4⟩:=each 4 (by omega)
 refine⟨raw5 a0 a1 a2 a3 a4,rfl,⟨a0,a1,a2,a3,a4,rfl,q0,q1,q2,q3⟩,fun j d hj=> ?_⟩
 match j,hj with
 |0,hj=>cases hj;exact⟨_,p0,.int _ _⟩
 |1,hj=>cases hj;exact⟨_,p1,.int _ _⟩
 |2,hj=>cases hj;exact⟨_,p2,.int _ _⟩
 |3,hj=>cases hj;exact⟨_,p3,.int _ _⟩
 |4,hj=>cases hj;exact⟨_,p4,.int _ _⟩
 |j+5,hj=>simp[raw5]at hj
theorem rawP (hO:∀b,¬O b){n:Nat}{cs:List Value}{y:DataW H×List MemPlace}(h:DataW.trod enc Tryz.prog w 0 (fun _=>true) true n 24 cs=some y):∃v R,cs=[v]/\RepP w O v R/\Tt R:=by
 obtain⟨xs,m,-,-,hl,hx,hel⟩:=DataW.trod_struct Tryz.underlying24 h
 have hl1:cs.length=1:=hl.trans (by kernel_rfl)
 have h2:DataW.trod enc Tryz.prog w 0 (fun _=>true) true m 22 ((cs.drop 0).take (Tryz.prog.cellsOf 22))=xs[0]? :=hel 0 _ rfl
 rw[Zf (by simp at hx;omega)]at h2
 have h3:(cs.drop 0).take (Tryz.prog.cellsOf 22)=cs:=by rw[show Tryz.prog.cellsOf 22=1 by kernel_rfl,Yh,Ze (by omega)]
 rw[h3]at h2
 obtain⟨v,R,es,g1,g2,g3,g4⟩:=slice_rep hO Tryz.underlying22 (sz:=5) (by kernel_rfl) (by decide) RawRow row5 h2
 exact⟨v,R,g1,g2,es,g3,g4⟩
theorem rawL (hO:∀b,¬O b){n:Nat}{cs:List Value}{y:DataW H×List MemPlace}(h:DataW.trod enc Tryz.prog w 0 (fun _=>true) true n 25 cs=some y):∃v L,cs=[v]/\RepP w O v L/\∃ls,Sl L ls/\∀c∈ls,∃R,c=[R]/\Tt R:=by
 obtain⟨v,L,es,g1,g2,g3,g4⟩:=slice_rep hO Tryz.underlying25 (sz:=1) (by kernel_rfl) (by decide) (fun c=>∃R,c=[R]/\Tt R) (fun n cs y hy=>by
  obtain⟨v,R,rfl,k2,k3⟩:=rawP hO hy
  refine⟨[R],rfl,⟨R,rfl,k3⟩,fun j d hj=> ?_⟩
  match j,hj with
  |0,hj=>cases hj;exact⟨v,rfl,k2⟩
  |j+1,hj=>simp at hj) h
 exact⟨v,L,g1,g2,es,g3,g4⟩
theorem rawU (n:Nat){cs:List Value}{y:DataW H×List MemPlace}(h:DataW.trod enc Tryz.prog w 0 (fun _=>true) true n 5 cs=some y):∃k,cs=[.int .u8 (Int.ofNat k)]/\k<256:=by
 obtain⟨a,e,-,hw⟩:=DataW.trod_int Tryz.underlying5 h
 have hr:=wf_u8 hw
 refine⟨a.toNat,?_,by omega⟩
 rw[e,show Int.ofNat a.toNat=a from Int.toNat_of_nonneg hr.1]
theorem rawG (hO:∀b,¬O b){n:Nat}{cs:List Value}{y:DataW H×List MemPlace}(h:DataW.trod enc Tryz.prog w 0 (fun _=>true) true n 27 cs=some y):∃v L k,cs=[v,.int .u8 (Int.ofNat k)]/\k<256/\RepP w O v L/\∃ls,Sl L ls/\∀c∈ls,∃R,c=[R]/\Tt R:=by
 obtain⟨xs,m,-,-,hl,hx,hel⟩:=DataW.trod_struct Tryz.underlying27 h
 have hl2:cs.length=2:=hl.trans (by kernel_rfl)
 match cs,hl2 with
 |[c0,c1],_=>
  have h2:DataW.trod enc Tryz.prog w 0 (fun _=>true) true m 25 (([c0,c1].drop 0).take (Tryz.prog.cellsOf 25))=xs[0]? :=hel 0 _ rfl
  have h3:DataW.trod enc Tryz.prog w 0 (fun _=>true) true m 5 (([c0,c1].drop 1).take (Tryz.prog.cellsOf 5))=xs[1]? :=hel 1 _ rfl
  rw[Zf (by simp at hx;omega),show Tryz.prog.cellsOf 25=1 by kernel_rfl]at h2
  rw[Zf (by simp at hx;omega),show Tryz.prog.cellsOf 5=1 by kernel_rfl]at h3
  obtain⟨v,L,g1,g2,g3⟩:=rawL hO h2
  obtain⟨k,e,hk⟩:=rawU _ h3
  simp at g1 e
  subst g1 e
  exact⟨c0,L,k,rfl,hk,g2,g3⟩
end
end Go.Proofs.YtefpgecinlekpaaGreat
