/- The leading monomial of a product; sums of products of small whole polynomials: plain facts. -/
import Derived.Test.YtefpgecinlekpaaGreatGrD
import Derived.Test.YtefpgecinlekpaaGreatMap
namespace Go.Proofs.YtefpgecinlekpaaGreat
open Go.Ev Go.Num
theorem eG {o:List (List Int)}{f:List Qm}(c:Pl f){s:Qm}(g:Wl o f=some s):∃b,(s::b).Perm f/\PO o (s::b):=by
 have d:=Vy o f;have a:=Rv (o:=o) c.Nd;cases e:Va o f with
 |nil=>
  have:=Sh o f;rw[e]at this;have:=Yk this.symm;subst this;cases g
 |cons t h=>
  have:=QH c e;rw[g]at this;cases this;rw[e]at d a;exact⟨h,d,a⟩
theorem y0 {o:List (List Int)}{f g:List Qm}(n:Pl f)(l:Pl g){s t:Qm}(V:Wl o f=some s)(W:Wl o g=some t):∃u,Wl o (U7 [] f g)=some u/\u.2=Xg s.2 t.2:=by
 obtain⟨A,P,of⟩:=eG n V;obtain⟨F,R,B⟩:=eG l W;have x:=of.q8 s (Ze ..);have C:=B.q8 t (Ze ..);have Y:=of.nz s (Ze ..);have Z:=B.nz t (Ze ..);have O:L8 (Xg s.2 t.2):=Ty x C;have H:Pl (U7 [] f g):=⟨eh n.q8 l.q8 (fun _ h=>by cases h) n.dc.nz l.dc .nil,kL n.q8 l.q8 (fun _ h=>by cases h)⟩;have p:∀E,Wg (U7 [] f g) E=Wg f fun m=>Wg g fun k=>E (Xg m k):=fun E=>by
  rw[ab E n.q8 l.q8 (fun _ h=>by cases h)];simp only[Wg];grind
 have r:∀u∈A,Vv o u.2 s.2:=fun u i=>(Zr.1 of.pw).1 u i
 have j:∀v∈F,Vv o v.2 t.2:=fun v c=>(Zr.1 B.pw).1 v c
 have q:∀v∈g,v=t\/Vv o v.2 t.2:=fun v c=>(Zk.1 (R.mem_iff.2 c)).imp_right (j v)
 have M:∀u∈f,u=s\/Vv o u.2 s.2:=fun u i=>(Zk.1 (P.mem_iff.2 i)).imp_right (r u)
 have w:∀u∈A,∀v∈g,Vv o (Xg u.2 v.2) (Xg s.2 t.2):=fun u i v c=>by
  have y:=of.q8 u (Zc _ i);have D:=l.q8 v c;have G:Vv o (Xg v.2 u.2) (Xg v.2 s.2):=(r u i).add D y x;rw[X7 v.2 u.2,X7 v.2 s.2]at G;rcases q v c with rfl|h
  ·exact G
  ·exact G.trans (Ty y D) (Ty x D) O (h.add x D C)
 have N:∀v∈F,Vv o (Xg s.2 v.2) (Xg s.2 t.2):=fun v c=>(j v c).add x (B.q8 v (Zc _ c)) C
 have U:QT (U7 [] f g) (Xg s.2 t.2)=s.1*t.1:=by
  rw[V5,p,<-QB P];simp only[Wg];have z1:Wg A (fun m=>Wg g fun k=>Vm (Xg s.2 t.2) (Xg m k))=0:=by
   rw[Vs (ψ:=fun _=>0) fun u i=>QC fun v c=>by
    unfold Vm;rw[if_neg (w u i v c).ne]]
   exact RB _
  have z2:Wg g (fun k=>Vm (Xg s.2 t.2) (Xg s.2 k))=t.1:=by
   rw[<-QB R];simp only[Wg];have z3:Wg F (fun k=>Vm (Xg s.2 t.2) (Xg s.2 k))=0:=QC fun v c=>by
    unfold Vm;rw[if_neg (N v c).ne]
   rw[z3];unfold Vm;rw[if_pos rfl];grind
  rw[z1,z2];grind
 have L:s.1*t.1≠0:=fun h=>(Rat.mul_eq_zero.1 h).elim Y Z
 have d:=H.Nd.mem (m:=Xg s.2 t.2) (by rw[U];exact L);cases Q:Wl o (U7 [] f g)with
 |none=>
  rw[RG Q]at d;cases d
 |some u=>
  refine⟨u,rfl,?_⟩;obtain⟨u1,y,u0,u4⟩:=We H Q;rcases u4 _ d with e|e
  ·exact(congrArg Prod.snd e).symm
  ·
   exfalso;have z:Vv o (Xg s.2 t.2) u.2:=e;have X:QT (U7 [] f g) u.2=0:=by
    rw[V5,p];rw[Vs (ψ:=fun _=>0) fun a I=>QC fun b K=>by
     unfold Vm;rw[if_neg];intro h;have S:=n.q8 a I;have T:=l.q8 b K;rcases M a I with rfl|hlt
     ·rcases q b K with rfl|hlt2
      ·rw[h]at z;exact Vv.AK z
      ·have:=hlt2.add S T C;rw[h]at this;exact absurd z (this.asymm y O)
     ·have J:a∈A:=(Zk.1 (P.mem_iff.2 I)).resolve_left fun e=>by rw[e]at hlt;exact Vv.AK hlt
      have:=w a J b K;rw[h]at this;exact absurd z (this.asymm y O)]
    exact RB _
   have:=H.Nd.Pv u u1;rw[X]at this;exact u0 this.symm
theorem vA (g:List Qm):U7 [] [] g=[]:=by unfold U7;rfl
theorem vz {f:List Qm}(a:Pl f):U7 [] f []=[]:=by
 have b:Pl (U7 [] f []):=⟨eh a.q8 (fun _ h=>by cases h) (fun _ h=>by cases h) a.dc.nz .nil .nil,kL a.q8 (fun _ h=>by cases h) (fun _ h=>by cases h)⟩;refine mh b fun c=> ?_
 rw[ab c a.q8 (fun _ h=>by cases h) (fun _ h=>by cases h)];simp only[Wg];rw[RB];grind
end Go.Proofs.YtefpgecinlekpaaGreat
namespace Go.Num
def wP (ts:List Tm):List Qm:=ts.map fun t=>((t.1:Rat),t.2)
def pZ (f:List Qm):List Tm:=f.map fun t=>(t.1.num,t.2)
def Fq (f:List Qm):Prop:=∀t∈f,t.1.den=1
theorem sW {f:List Qm}(h:Fq f):wP (pZ f)=f:=by
 unfold wP pZ;rw[List.map_map];have :f.map ((fun t:Tm=>((t.1:Rat),t.2))∘fun t:Qm=>(t.1.num,t.2))=f.map id:=List.map_congr_left fun t a=>by
  obtain⟨x,m⟩:=t;have b:x.den=1:=h (x,m) a;have :((x.num:Int):Rat)=x:=Rat.ext (Rat.num_intCast _) ((Rat.den_intCast _).trans b.symm);show((((x.num:Int):Rat)),m)=(x,m);rw[this]
 rw[this,List.map_id]
theorem dQ (b:List Nat->Int):∀(a:List Tm),Wg (wP a) (fun n=>((b n:Int):Rat))=((pair a b:Int):Rat)
 |[]=>rfl
 |t::a=>by
  have c:=dQ b a;unfold wP at c⊢;simp only[Zw,Wg,pair,c,Rat.intCast_add,Ys]
def yI (n:List Nat):List Nat->Int:=fun k=>if k=n then 1 else 0
theorem yJ (n k:List Nat):Vm n k=((yI n k:Int):Rat):=by
 unfold Vm yI;split<;>rfl
theorem Ae (a:List Tm)(n:List Nat):QT (wP a) n=((pair a (yI n):Int):Rat):=by
 rw[V5,<-dQ];exact Vs fun t _=>yJ n t.2
theorem Ac:∀{g:List Tm},(∀t∈g,t.2.length=8)->EH g->PN (wP g)
 |[],_,_=>.nil
 |[t],_,h=>by
  refine⟨fun x i=> ?_,by unfold wP;exact List.pairwise_singleton ..⟩;have c:x=((t.1:Rat),t.2):=by simpa[wP]using i
  rw[c];intro e;have f:t.1≠0:=h;exact f ((Rat.intCast_inj (a:=t.1) (b:=0)).1 (by simpa using e))
 |t::u::g,h8,h=>by
  have f:t.1≠0/\Wj t.2 u.2=.ofNat 1/\EH (u::g):=h;have k:=Ac (fun x i=>h8 x (Zc _ i)) f.2.2;have o:=h8 t (Ze ..);have l:=h8 u (Zc _ (Ze ..));have m:=(Zr.1 k.pw).1;refine PN.cons (t:=((t.1:Rat),t.2)) (fun e=>f.1 ((Rat.intCast_inj (a:=t.1) (b:=0)).1 (by simpa using e))) k fun x i=> ?_
  rcases Zk.1 i with rfl|c
  ·exact f.2.1
  ·have d:x∈wP g:=c;have j:=m x d;unfold wP at d;obtain⟨y,n,rfl⟩:=ZH.1 d;have p:=h8 y (Zc _ (Zc _ n));exact Tw (o.trans l.symm) (l.trans p.symm) f.2.1 j
end Go.Num
namespace Go.Proofs.YtefpgecinlekpaaGreat
open Go.Ev Go.Num
theorem Fh {c:List PL}{t:Tm}(h:En c t):Vd c ((t.1:Rat),t.2):=by
 obtain⟨n,a,d,b,rfl,e,f,g⟩:=h;refine⟨n,a,d,b,rfl,⟨n,a,d,b,rfl,?_,?_⟩,g⟩
 ·rw[show((t.1:Rat)).num=t.1 from Rat.num_intCast _];exact e
 ·rw[show((t.1:Rat)).den=1 from Rat.den_intCast _];exact f
theorem sP:∀{a:List (List PL)} {b:List Tm},dw a b->X2 a (wP b)
 |[],_,.nil=>.nil
 |_::_,_::_,.cons h t=>.cons (Fh h) (sP t)
theorem DN {c:List PL}{t:Qm}(h:Vd c t)(k:t.1.den=1):En c (t.1.num,t.2):=by
 obtain⟨n,a,d,b,rfl,g,j⟩:=h;obtain⟨p,l,o,m,e,i,f⟩:=g;simp only[ZF,PL.bool.injEq,and_true]at e;obtain⟨rfl,rfl,rfl,rfl⟩:=e;rw[k]at f;exact⟨n,a,d,b,rfl,i,f,j⟩
theorem kQ:∀{a:List (List PL)} {f:List Qm},X2 a f->Fq f->dw a (pZ f)
 |[],_,.nil,_=>.nil
 |_::_,t::_,.cons h k,hw=>.cons (DN h (hw t (Ze ..))) (kQ k fun u b=>hw u (Zc _ b))
theorem vh {B:Xr}(O:pG B){lp lq:PL}{f g:List Qm}(V:PQ lp f)(W:PQ lq g)(H:Fq f)(I:Fq g)(K:PN f)(dg:PN g)(F:Q8 f)(G:Q8 g){a b:Nat}(P:∀t∈f,t.1.num.natAbs<=a)(Q:∀t∈g,t.1.num.natAbs<=b)(s:a<65536)(v:b<65536)(X:∀t∈f,∀u∈g,XL (Xg t.2 u.2))
  (q:f.length*(g.length*(a*b))<4294967296) (T:f.length*g.length<60000) (l1:f.length<1000) (l2:g.length<1000):
  ∃r,Xs B 54 [.one lp,.one lq] (.XY [.one (.Xv r),.one (.int .i64 (.ofNat 0))])/\X2 r (U7 [] f g):=by
 obtain⟨ps,sp,w⟩:=V;obtain⟨qs,sq,z⟩:=W;have o:(pZ f).length=f.length:=by unfold pZ;rw[Zy]
 have p:(pZ g).length=g.length:=by unfold pZ;rw[Zy]
 obtain⟨r,J,L,E,M,N,-⟩:=nI O (lp:=lp) (lq:=lq) (ts:=pZ f) (us:=pZ g) ⟨ps,sp,kQ w H⟩ ⟨qs,sq,kQ z I⟩ (a:=a) (b:=b)
  (fun t j=>by unfold pZ at j;obtain⟨u,l,rfl⟩:=ZH.1 j;exact P u l) (fun t j=>by unfold pZ at j;obtain⟨u,l,rfl⟩:=ZH.1 j;exact Q u l) s v
  (fun t j u l=>by
   unfold pZ at j l;obtain⟨t',A,rfl⟩:=ZH.1 j;obtain⟨u',C,rfl⟩:=ZH.1 l;exact X t' A u' C) (by rw[o,p];exact q) (by rw[o,p];exact T) (by omega) (by omega)
 refine⟨r,L,?_⟩;have D:∀t∈J,t.2.length=8:=fun t j=>by
  obtain⟨i,S⟩:=ZM.1 j;obtain⟨c,-,R⟩:=E.get i t S;obtain⟨n,x,d,y,-,-,-,U⟩:=R;exact U.1
 have e:wP J=U7 [] f g:=by
  refine PN.ext (Ac D M) (eh F G (fun _ h=>by cases h) K.nz dg .nil) fun m=> ?_
  rw[Ae,vo N,P4,jr,V5,ab (Vm m) F G (fun _ h=>by cases h)];have Y:∀n:List Nat,Wg g (fun k=>Vm m (Xg n k))=((pair (pZ g) (fun k=>yI m (Xg n k)):Int):Rat):=fun n=>by
   rw[<-dQ,sW I];exact Vs fun t _=>yJ m _
  have Z:Wg f (fun n=>Wg g fun k=>Vm m (Xg n k))=((pair (pZ f) (fun n=>pair (pZ g) fun k=>yI m (Xg n k)):Int):Rat):=by
   rw[<-dQ,sW H];exact Vs fun t _=>Y t.2
  rw[Z];simp only[pair,Wg];rw[Int.zero_add];grind
 rw[<-e];exact sP E
theorem tZ {d e:Nat}{m n:List Nat}(i:pP d m)(j:pP e n):pP (d+e) (Xg m n):=by
 obtain⟨a,b,c,rfl,k⟩:=i;obtain⟨f,g,h,rfl,l⟩:=j;exact⟨a+f,b+g,c+h,rfl,by omega⟩
theorem rl {d e a b n:Nat}{f:List Qm}(h:U5 d a n f){z:Int}(p:z≠0)(j:z.natAbs<=b){m:List Nat}(k:pP e m):U5 (e+d) (b*a) n (X3 (z:Rat) m f):=by
 have i:(z:Rat)≠0:=fun e=>p ((Rat.intCast_inj (a:=z) (b:=0)).1 (by simpa using e))
 refine⟨RC i k.l8 h.pl,fun t c=> ?_,fun t c=> ?_,by unfold X3;rw[Zy];exact h.len⟩
 ·unfold X3 at c;obtain⟨u,g,rfl⟩:=ZH.1 c;exact tZ k (h.lN u g)
 ·unfold X3 at c;obtain⟨u,g,rfl⟩:=ZH.1 c;obtain⟨y,l,o⟩:=h.cf u g;refine⟨z*y,by rw[Ys,<-l],?_⟩;rw[Yg];exact Ya j o
theorem sZ {d e a b n:Nat}{i:List Qm}(h:U5 d a n i):∀{g f:List Qm} {c k:Nat},(∀t∈g,pP e t.2/\t.1≠0/\∃z:Int,t.1=(z:Rat)/\z.natAbs<=b)->U5 (e+d) c k f->c+g.length*(b*a)<4294967296->b*a<4294967296->
  gX i f g/\U5 (e+d) (c+g.length*(b*a)) (k+g.length*n) (U7 f g i)
 |[],f,c,k,_,hacc,_,_=>⟨trivial,by simpa[U7]using hacc⟩
 |t::g,f,c,k,ht,hacc,hs,hba=>by
  obtain⟨o,p,z,j,q⟩:=ht t (Ze ..);have r:z≠0:=fun e=>p (by rw[j,e];rfl)
  have l:U5 (e+d) (b*a) n (X3 t.1 t.2 i):=by rw[j];exact rl h r q o
  have m:(t::g).length*(b*a)=g.length*(b*a)+b*a:=by rw[Zi,ZE,Z0]
  rw[m]at hs;obtain⟨s,v⟩:=sZ h (fun u h=>ht u (Zc _ h)) (hacc.add l) (by omega) hba;refine⟨⟨S9 hacc (by omega),S9 l hba,s⟩,?_⟩;rw[m,show(t::g).length*n=g.length*n+n by rw[Zi,ZE,Z0]];exact v.mono (Zh _) (by omega) (by omega)
theorem vW {d a n:Nat}{f:List Qm}(h:U5 d a n f):∀t∈f,pP d t.2/\t.1≠0/\∃z:Int,t.1=(z:Rat)/\z.natAbs<=a:=fun t b=>⟨h.lN t b,h.pl.dc.nz t b,h.cf t b⟩
theorem kZ {q f:List Qm}(a:U5 2 9 3 q)(c:U5 3 12 4 f):gX f [] q/\U5 5 324 12 (U7 [] q f):=by
 obtain⟨d,g⟩:=sZ (e:=2) (b:=9) c (vW a) (U5.nil 5 0 0) (by have:=a.len;omega) (by omega);have h:=a.len;exact⟨d,g.mono (Zh _) (by omega) (by omega)⟩
theorem qM {q f:List Qm}(b:U5 2 9 3 q)(a:U5 3 12 4 f):∀t∈q,∀u∈f,XL (Xg t.2 u.2):=fun t c u e=>lM (d:=5) (by omega) (tZ (b.lN t c) (a.lN u e))
theorem sa:∀{qs fs:List (List Qm)} {a:List Qm} {c n:Nat},qs.length=fs.length->(∀q∈qs,U5 2 9 3 q)->(∀f∈fs,U5 3 12 4 f)->U5 5 c n a->c+qs.length*324<100000->n+qs.length*12<100000->∃r,lU a qs fs r/\U5 5 (c+qs.length*324) (n+qs.length*12) r
 |[],[],a,c,n,_,_,_,ha,_,_=>⟨a,.nil a,by simpa using ha⟩
 |[],_::_,_,_,_,h,_,_,_,_,_=>by simp at h
 |_::_,[],_,_,_,h,_,_,_,_,_=>by simp at h
 |q::qs,f::fs,a,c,n,h,hq,hf,ha,h1,h2=>by
  have b:=hq q (Ze ..);have d:=hf f (Ze ..);obtain⟨o,g⟩:=kZ b d;simp only[Zi]at h1 h2 h;obtain⟨r,j,k⟩:=sa (qs:=qs) (fs:=fs) (by omega) (fun x e=>hq x (Zc _ e)) (fun x e=>hf x (Zc _ e)) (ha.add g) (by omega) (by omega);have l:=b.len;have m:=d.len;have p:=g.len;have s:=ha.len;refine⟨r,.cons (S9 b (by omega)) (S9 d (by omega)) (fun t i=>⟨b.pl.dc.nz t i,qM b d t i⟩) o (by omega) (by omega) ?_ (S9 ha (by omega)) (S9 g (by omega)) (by omega) (by omega) j,k.mono (Zh _) (by simp only[Zi];omega) (by simp only[Zi];omega)⟩;have :q.length*f.length<=3*4:=Ya l m;omega
theorem r5 {d a n:Nat}{f:List Qm}(h:U5 d a n f):Fq f:=fun t c=>by
 obtain⟨z,b,-⟩:=h.cf t c;rw[b];exact Rat.den_intCast _
theorem sY {d a n:Nat}{f:List Qm}(h:U5 d a n f):∀t∈f,t.1.num.natAbs<=a:=fun t e=>by
 obtain⟨z,b,c⟩:=h.cf t e;rw[b,Rat.num_intCast];exact c
end Go.Proofs.YtefpgecinlekpaaGreat
