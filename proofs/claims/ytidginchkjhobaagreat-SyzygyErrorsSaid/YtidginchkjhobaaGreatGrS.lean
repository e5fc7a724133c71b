/- What top finds: plain facts. -/
import Derived.Test.YtidginchkjhobaaGreatOval
import Derived.Test.YtidginchkjhobaaGreatVec
import Derived.Test.YtidginchkjhobaaGreatGrD
set_option maxRecDepth 100000
namespace Go.Proofs.YtidginchkjhobaaGreat
open Go.Ev Go.Num
variable {o:List (List Int)}
def NP (o:List (List Int)):List (Option (List Nat))->Nat->Int×Int×List Nat->Int×Int×List Nat
 |[],_,st=>st
 |none::r,k,st=>NP o r (k+1) st
 |some m::r,k,st=>NP o r (k+1) (Q1 o st.1 st.2.1 st.2.2 k m)
def DZ (o:List (List Int))(ps:List (Option (List Nat)))(k:Nat)(st:Int×Int×List Nat):Prop:=
 (st.1=.negSucc 0/\st.2.1=.negSucc 0/\∀h,h<k->ps[h]? =some none)\/
 ∃a,a<k/\st.1=.ofNat a/\ps[a]? =some (some st.2.2)/\L8 st.2.2/\(∀h m,h<a->ps[h]? =some (some m)->WE o m st.2.2)/\(∀h m,h<k->ps[h]? =some (some m)->aQ o m st.2.2)/\
  (st.2.1=.negSucc 0\/∃b,st.2.1=.ofNat b/\a<b/\b<k/\ps[b]? =some (some st.2.2))
theorem dW {m:List Nat}:aQ o m m:=by
 exact .inl rfl
theorem bd {ps:List (Option (List Nat))}(y:∀m,some m∈ps->L8 m):∀(r:List (Option (List Nat))) (k:Nat) (n:Int×Int×List Nat),ps.drop k=r->DZ o ps k n->DZ o ps ps.length (NP o r k n)
 |[],k,n,hd,hi=>by
  have E:ps.length<=k:=List.drop_eq_nil_iff.1 hd;unfold NP;rcases hi with⟨t,p,j⟩|⟨a,t,p,j,q,v,u,l⟩
  ·exact .inl ⟨t,p,fun h s=>j h (by omega)⟩
  ·have A:=(Zb.1 j).1;refine .inr ⟨a,A,p,j,q,v,fun h m s=>u h m (by omega),?_⟩;rcases l with l|⟨b,b1,b2,b3,b4⟩
   ·exact .inl l
   ·exact .inr ⟨b,b1,b2,(Zb.1 b4).1,b4⟩
 |none::r,k,n,hd,hi=>by
  obtain⟨g,d⟩:=Xi hd;unfold NP;refine bd y r (k+1) n d ?_;rcases hi with⟨t,p,j⟩|⟨a,t,p,j,q,v,u,l⟩
  ·exact .inl ⟨t,p,fun h s=>by
    rcases Yj h k with e|e
    ·exact j h e
    ·obtain rfl:h=k:=by omega
     exact g⟩
  ·refine .inr ⟨a,by omega,p,j,q,v,fun h m s f=> ?_,?_⟩
   ·rcases Yj h k with e|e
    ·exact u h m e f
    ·obtain rfl:h=k:=by omega
     rw[g]at f;cases f
   ·rcases l with l|⟨b,b1,b2,b3,b4⟩
    ·exact .inl l
    ·exact .inr ⟨b,b1,b2,by omega,b4⟩
 |some m::r,k,n,hd,hi=>by
  obtain⟨g,d⟩:=Xi hd;have w:=y m (Zn g);unfold NP;refine bd y r (k+1) _ d ?_;unfold Q1;rcases hi with⟨t,p,j⟩|⟨a,t,p,j,q,v,u,l⟩
  ·rw[if_pos t];refine .inr ⟨k,by omega,rfl,g,w,fun h i s f=> ?_,fun h i s f=> ?_,.inl rfl⟩
   ·rw[j h s]at f;cases f
   ·rcases Yj h k with e|e
    ·rw[j h e]at f;cases f
    ·obtain rfl:h=k:=by omega
     rw[g]at f;cases f;exact dW
  ·have B:¬n.1=.negSucc 0:=by rw[p];intro e;cases e
   rw[if_neg B];have D:∀h i,ps[h]? =some (some i)->L8 i:=fun h i e=>y i (Zn e)
   rcases WE.CQ o w q with e|e|e
   ·
    have z:¬WC o m n.2.2=.ofNat 1:=fun c=>(e.asymm w q c).elim
    have x:¬WC o m n.2.2=.ofNat 0:=fun c=>WE.zh (o:=o) (m:=n.2.2) (by
     have:=ON (w.trans q.symm) c
     rwa[this]at e)
    rw[if_neg z,if_neg x];refine .inr ⟨a,by omega,p,j,q,v,fun h i s f=> ?_,?_⟩
    ·rcases Yj h k with e'|e'
     ·exact u h i e' f
     ·obtain rfl:h=k:=by omega
      rw[g]at f;cases f;exact .inr e
    ·rcases l with l|⟨b,b1,b2,b3,b4⟩
     ·exact .inl l
     ·exact .inr ⟨b,b1,b2,by omega,b4⟩
   ·
    subst e;have x:WC o n.2.2 n.2.2=.ofNat 0:=QC _ _;rw[if_neg (by rw[x];intro h;cases h),if_pos x];by_cases C:n.2.1=.negSucc 0
    ·rw[if_pos C];refine .inr ⟨a,by omega,p,j,q,v,fun h i s f=> ?_,.inr ⟨k,rfl,t,by omega,g⟩⟩;rcases Yj h k with e'|e'
     ·exact u h i e' f
     ·obtain rfl:h=k:=by omega
      rw[g]at f;cases f;exact dW
    ·rw[if_neg C];refine .inr ⟨a,by omega,p,j,q,v,fun h i s f=> ?_,?_⟩
     ·rcases Yj h k with e'|e'
      ·exact u h i e' f
      ·obtain rfl:h=k:=by omega
       rw[g]at f;cases f;exact dW
     ·rcases l with l|⟨b,b1,b2,b3,b4⟩
      ·exact .inl l
      ·exact .inr ⟨b,b1,b2,by omega,b4⟩
   ·
    have z:WC o m n.2.2=.ofNat 1:=e;rw[if_pos z];refine .inr ⟨k,by omega,rfl,g,w,fun h i s f=> ?_,fun h i s f=> ?_,.inl rfl⟩
    ·exact aQ.lt (D h i f) q w (u h i s f) e
    ·rcases Yj h k with e'|e'
     ·exact .inr (aQ.lt (D h i f) q w (u h i e' f) e)
     ·obtain rfl:h=k:=by omega
      rw[g]at f;cases f;exact dW
end Go.Proofs.YtidginchkjhobaaGreat
namespace Go.Proofs.YtidginchkjhobaaGreat
open Go.Ev Go.Num
theorem QL.mono {D c b:Nat}{a:List Qm}(h:QL D c a)(k:c<=b):QL D b a:=fun t d=>(h t d).mono k
theorem Fr.scale {D c E:Nat}{x:Rat}(h:Fr D c x):Fr (D*E) (c*E) x:=by
 obtain⟨z,e,a⟩:=h;refine⟨z*E,?_,?_⟩
 ·rw[Y9,<-Rat.mul_assoc,e,Yg,YS]
 ·rw[Yf,Z3];exact Zp _ a
theorem QL.WB {D a b:Nat}{c d:List Qm}(g:Q8 c)(i:Q8 d)(h:QL D a c)(k:QL D b d):QL D (a+b) (WB c d):=fun x f=>by
 rcases Rp _ (Zh _) g i f with h1|h1|⟨t,ht,u,hu,-,-,e⟩
 ·exact(h x h1).mono (by omega)
 ·exact(k x h1).mono (by omega)
 ·rw[e];exact(h t ht).add (k u hu)
theorem Fr.neg {D c:Nat}{x:Rat}(h:Fr D c x):Fr D c (-x):=by
 obtain⟨z,e,a⟩:=h;exact⟨-z,by rw[Rat.neg_mul,e,Rat.intCast_neg],by omega⟩
theorem nY {a:List Qm}{x:Qm}(h:x∈U3 a):∃t∈a,x.2=t.2/\x.1= -t.1:=by
 unfold U3 Uc at h;obtain⟨t,b,rfl⟩:=ZQ.1 h;exact⟨t,b,rfl,neg_one_mul _⟩
theorem QL.U3 {D c:Nat}{a:List Qm}(h:QL D c a):QL D c (U3 a):=fun x d=>by
 obtain⟨t,b,-,e⟩:=nY d;rw[e];exact(h t b).neg
theorem O7 {c:Rat}{m:List Nat}{a:List Qm}{x:Qm}(h:x∈XS c m a):∃t∈a,x.2=Xg m t.2/\x.1=c*t.1:=by
 unfold XS at h;obtain⟨t,b,rfl⟩:=ZQ.1 h;exact⟨t,b,rfl,rfl⟩
def lk:List Qm->Nat
 |[]=>1
 |t::ts=>t.1.den*lk ts
theorem nP:∀a:List Qm,0<lk a
 |[]=>by decide
 |t::a=>Yn t.1.den_pos (nP a)
theorem tD {Z:Nat}:∀{a:List Qm},(∀t∈a,t.1.den<=Z)->lk a<=Z^a.length
 |[],_=>by simp[lk]
 |t::a,h=>by
  simp only[lk,Zi];rw[ZK,ZH];exact ZU (tD fun x b=>h x (Zc _ b)) (h t (Ze ..))
theorem nQ:∀{a:List Qm} {t:Qm},t∈a->t.1.den ∣ lk a
 |u::a,t,h=>by
  simp only[lk];rcases Zj.1 h with rfl|h
  ·exact Nat.dvd_mul_right ..
  ·exact Nat.dvd_trans (nQ h) (Nat.dvd_mul_left ..)
theorem BQ {Z D:Nat}{x:Rat}(h:x.num.natAbs<=Z)(a:x.den ∣ D):Fr D (Z*D) x:=by
 obtain⟨e,rfl⟩:=a;refine⟨x.num*e,?_,?_⟩
 ·rw[Y9,<-Rat.mul_assoc,<-tf,Yg,YS]
 ·rw[Yf,Z3];exact ZU h (YQ _ x.den_pos)
theorem P4 {N:Nat}:∀{a:List (List Qm)},(∀Q∈a,Q.length<=N)->a.flatten.length<=a.length*N
 |[],_=>by simp
 |Q::a,h=>by
  have c:=h Q (Ze ..);have d:=P4 fun R b=>h R (Zc _ b)
  simp only[List.flatten_cons,Zk,Zi,ZG,ZZ];omega
theorem kZ {w:List Nat}(b:w.length=8)(d:∀x∈w,0<x){V:Nat}{Q:List Qm}(f:Pl Q)(h:∀u∈Q,OV w V u.2):Q.length<=(allM w V).length:=by
 have e:=yU (o:=([]:List (List Int))) b d V;have a:=PO.fQ e.dc (fun n g=>(e.AA n g).1) (Rs (o:=[]) f.O1) fun t c=>WZ.2 (SP (b.trans (h t ((Vh [] Q).mem_iff.1 c)).1.symm) d (h t ((Vh [] Q).mem_iff.1 c)).2)
 rw[Sc]at a;exact Zy a (Qe _)
theorem aO {B:Xs}(l:Std B):∀{i e:List PL} {b a:List (List Qm)},Ut i b->Ut e a->b.length=a.length->(∀f∈b,Sz f/\f.length<400000)->(∀f∈a,Sz f/\f.length<400000)->∃d,(X1 B fun E _=>qg E i e d)/\Ut d (List.zipWith WB b a)
 |[],e,[],a,.nil,h,he,_,_=>by
  cases h with
  |nil=>exact⟨[],X1.of fun _ _=>.nil,.nil⟩
  |cons _ _=>simp at he
 |c::i,xs',f::b,gs',.cons hc hcs,h,he,h1,h2=>by
  cases h with
  |nil=>simp at he
  |@cons x g e a s k=>
   obtain⟨d,t,u⟩:=aO l hcs k (by simpa using he) (fun f j=>h1 f (Zc _ j)) fun f j=>h2 f (Zc _ j)
   obtain⟨n,o⟩:=h1 f (Ze ..);obtain⟨p,q⟩:=h2 g (Ze ..);obtain⟨m,v,w⟩:=bJ l hc s n p o q;exact⟨.Xp m::d,(t.and v.Xj).mono fun E K ⟨r,e1⟩=>.cons e1 r,.cons ⟨m,.Xp,w⟩ u⟩
theorem jr {B:Xs}(d:Std B):∀{c:List PL} {a:List (List Qm)},Ut c a->(∀f∈a,Sz f/\f.length<400000)->∃b,(X1 B fun E _=>XF (fun p x=>E.pure 67 [.one .XC,.one p]=some (.one x)) c b)/\Ut b (a.map U3)
 |[],[],.nil,_=>⟨[],X1.of fun _ _=>.nil,.nil⟩
 |p::c,f::a,.cons hp h,h1=>by
  obtain⟨b,m,n⟩:=jr d h fun f l=>h1 f (Zc _ l)
  obtain⟨i,j⟩:=h1 f (Ze ..);obtain⟨e,o,g⟩:=bF d (lp:=.XC) (ts:=[]) ⟨[],.nil,.nil⟩ hp Sz.nil i (by simp) j;rw[Wd]at g;exact⟨.Xp e::b,(m.and o.Xj).mono fun E K ⟨k,e1⟩=>.cons e1 k,.cons ⟨e,.Xp,g⟩ n⟩
theorem lB (t:Qm)(g:List Qm):Ry [] [t] g=XS t.1 t.2 g:=by
 unfold Ry;rw[Wd];unfold Ry;rfl
theorem iS {B:Xs}(j:iH B){D i a b C k:Nat}(m:Ar D i a b C k){F:PL}{t:Qm}(l:PQ F [t])(n:Fr D a t.1)(r:t.1≠0):∀{g:List PL} {d:List (List Qm)},Ut g d->(∀f∈d,QL i b f/\Pv f/\(∀u∈f,XE (Xg t.2 u.2))/\f.length<1000/\f.length*(a*b)<=C)->∃e,(X1 B fun E _=>XF (Cl E F) g e)/\Ut e (d.map (XS t.1 t.2))
 |[],[],.nil,_=>⟨[],X1.of fun _ _=>.nil,.nil⟩
 |p::g,f::d,.cons hp h,h1=>by
  obtain⟨e,H,I⟩:=iS j m l n r h fun f G=>h1 f (Zc _ G)
  obtain⟨s,v,w,y,z⟩:=h1 f (Ze ..);obtain⟨o,J,q⟩:=jk j m l hp (fun x c=>by rw[Ym.1 c];exact n) s (fun x c=>by rw[Ym.1 c];exact r) v (fun x c=>by rw[Ym.1 c];exact w) (by rw[ZR,ZZ];exact z) (by rw[ZR,ZZ];omega) (by simp) y;rw[lB]at q;exact⟨.Xp o::e,(H.and J.Xj).mono fun E K ⟨A,e1⟩=>.cons e1 A,.cons ⟨o,.Xp,q⟩ I⟩
theorem fe (n:Nat):Ut (List.replicate n .XC) (List.replicate n []):=by
 induction n with
 |zero=>exact .nil
 |succ n a=>exact .cons ⟨[],.nil,.nil⟩ a
def NG:Nat:=3*(4294967296^9*(144*(4294967296^9)^200))
structure Cj (o:List (List Int))(w:List Nat)(fs:List (List Qm))(i j:Nat)(s t:Qm)(L:List (List Qm)):Prop where
 len:L.length=fs.length
 pl:∀Q∈L,Pl Q
 fr:∃E,0<E/\E<=NG/\∀Q∈L,QL E NG Q
 ln:∀Q∈L,Q.length<=200
 mem:∀(h:Nat) (Q f:List Qm) (r:Qm),L[h]? =some Q->fs[h]? =some f->XU o f=some r->∀u∈Q,OV w (WT w (XD s.2 t.2)) (Xg u.2 r.2)/\((Xg u.2 r.2=XD s.2 t.2/\(h=i\/h=j))\/WE o (Xg u.2 r.2) (XD s.2 t.2))
 co:∀Q,L[i]? =some Q->S0 Q (X6 (XD s.2 t.2) s.2)=s.1⁻¹
variable {o:List (List Int)}{w:List Nat}
theorem dL {c:Type}{f:c->c->c}{l m:List c}{h:Nat}{x:c}(e:(List.zipWith f l m)[h]? =some x):∃a b,l[h]? =some a/\m[h]? =some b/\x=f a b:=by
 rw[List.getElem?_zipWith]at e;cases d:l[h]? with
 |none=>rw[d]at e;cases e
 |some a=>
  cases g:m[h]? with
  |none=>rw[d,g]at e;cases e
  |some b=>
   rw[d,g]at e;cases e;exact⟨a,b,rfl,rfl,rfl⟩
theorem NN {n i h:Nat}{x:Qm}{A:List Qm}(e:((List.replicate n ([]:List Qm)).set i [x])[h]? =some A):(h=i/\A=[x])\/(h≠i/\A=[]):=by
 rw[Y8]at e;by_cases a:i=h
 ·rw[if_pos a]at e;split at e
  ·cases e;exact .inl ⟨a.symm,rfl⟩
  ·cases e
 ·rw[if_neg a,Yd]at e;split at e
  ·cases e;exact .inr ⟨fun h=>a h.symm,rfl⟩
  ·cases e
theorem pB {a b:List Qm}(c:Q8 a)(d:Q8 b)(m:List Nat):S0 (WB a b) m=S0 a m+S0 b m:=by
 rw[Ve,Ve,Ve,Sy _ _ _ _ (Zh _) c d]
theorem Ac (a:List Qm)(m:List Nat):S0 (U3 a) m= -S0 a m:=by
 rw[Ve,Ve,dT]
def kK (n i j:Nat)(s t:Qm)(Qs:List (List Qm)):List (List Qm):=
 List.zipWith WB (List.zipWith WB ((List.replicate n []).set i [(s.1⁻¹,X6 (XD s.2 t.2) s.2)]) ((List.replicate n []).set j [(-t.1⁻¹,X6 (XD s.2 t.2) t.2)])) (Qs.map U3)
theorem AZ {d:List (List Qm)}(h8:w.length=8)(hw:∀x∈w,0<x)(b5:d.length<=3){i j:Nat}(b4:i<j)(hj:j<d.length){f g:List Qm}{s t:Qm}(hf:d[i]? =some f)(hg:d[j]? =some g)(hs:XU o f=some s)(ht:XU o g=some t)(s8:L8 s.2)(t8:L8 t.2)(s0:s.1≠0)(t0:t.1≠0)
  (zs:∃z:Int,s.1=(z:Rat)/\z.natAbs<=12) (zt:∃z:Int,t.1=(z:Rat)/\z.natAbs<=12) (a5:(allM w (WT w (XD s.2 t.2))).length<=60) {q:List (List Qm)} (hl:q.length=d.length) (T:∀f∈d,∃r,XU o f=some r/\L8 r.2)
  (up:∀(h:Nat) (Q f:List Qm) (r:Qm),q[h]? =some Q->d[h]? =some f->XU o f=some r->Pl Q/\∀u∈Q,(OV w (WT w (XD s.2 t.2)) (Xg u.2 r.2)/\WE o (Xg u.2 r.2) (XD s.2 t.2))/\Bq 9 u.1):
  Cj o w d i j s t (kK d.length i j s t q):=by
 have W:L8 (XD s.2 t.2):=No s8 t8;have a1:Xg (X6 (XD s.2 t.2) s.2) s.2=XD s.2 t.2:=by rw[XP];exact Un (s8.trans W.symm) (TD _ _ (s8.trans t8.symm))
 have a2:Xg (X6 (XD s.2 t.2) t.2) t.2=XD s.2 t.2:=by rw[XP];exact Un (t8.trans W.symm) (Sr _ _ (s8.trans t8.symm))
 have p1:Pl [((s.1⁻¹:Rat),X6 (XD s.2 t.2) s.2)]:=kY (PZ s0) (Vs W s8);have p2:Pl [((-t.1⁻¹:Rat),X6 (XD s.2 t.2) t.2)]:=kY (fun e=>PZ t0 (by rw[<-Rat.neg_neg t.1⁻¹];rw[show(-t.1⁻¹:Rat)=0 from e];rfl)) (Vs W t8);have c:∀(h:Nat) (X:List Qm),(kK d.length i j s t q)[h]? =some X->∃A B Q f r,((h=i/\A=[((s.1⁻¹:Rat),X6 (XD s.2 t.2) s.2)])\/(h≠i/\A=[]))/\((h=j/\B=[((-t.1⁻¹:Rat),X6 (XD s.2 t.2) t.2)])\/(h≠j/\B=[]))/\q[h]? =some Q/\d[h]? =some f/\XU o f=some r/\L8 r.2/\Pl A/\Pl B/\Pl Q/\X=WB (WB A B) (U3 Q):=fun h X e=>by
  unfold kK at e;obtain⟨AB,C,e1,e2,rfl⟩:=dL e;obtain⟨A,B,e3,e4,rfl⟩:=dL e1;rw[ZA]at e2;cases p:q[h]? with
  |none=>rw[p]at e2;cases e2
  |some Q=>
   rw[p]at e2;cases e2;have M:h<d.length:=by rw[<-hl];exact(Zb.1 p).1
   have a4:=Zf M;obtain⟨r,G,J⟩:=T _ (Yz M);have u1:=NN e3;have u2:=NN e4;refine⟨A,B,Q,_,r,u1,u2,rfl,a4,G,J,?_,?_,(up h Q _ r p a4 G).1,rfl⟩
   ·rcases u1 with⟨-,rfl⟩|⟨-,rfl⟩
    ·exact p1
    ·exact Pl.nil
   ·rcases u2 with⟨-,rfl⟩|⟨-,rfl⟩
    ·exact p2
    ·exact Pl.nil
 have a6:∀(h:Nat) (X f:List Qm) (r:Qm),(kK d.length i j s t q)[h]? =some X->d[h]? =some f->XU o f=some r->∀u∈X,OV w (WT w (XD s.2 t.2)) (Xg u.2 r.2)/\((Xg u.2 r.2=XD s.2 t.2/\(h=i\/h=j))\/WE o (Xg u.2 r.2) (XD s.2 t.2)):=fun h X f' r e F G u D=>by
  obtain⟨A,B,Q,S,r2,N,O,p,l,m,J,H,I,L,rfl⟩:=c h X e;rw[F]at l;cases l;rw[G]at m;cases m;rcases Um _ (Zh _) (H.add I).q8 (R7 L).q8 D with⟨v,hv,ev⟩|⟨v,hv,ev⟩
  ·rcases Um _ (Zh _) H.q8 I.q8 hv with⟨x,n,R⟩|⟨x,n,R⟩
   ·rcases N with⟨rfl,rfl⟩|⟨-,rfl⟩
    ·rw[Ym.1 n]at R;rw[hf]at F;cases F;rw[hs]at G;cases G;rw[<-ev,<-R];exact⟨⟨by rw[a1];exact W,by rw[a1];exact Zh _⟩,.inl ⟨a1,.inl rfl⟩⟩
    ·cases n
   ·rcases O with⟨rfl,rfl⟩|⟨-,rfl⟩
    ·rw[Ym.1 n]at R;rw[hg]at F;cases F;rw[ht]at G;cases G;rw[<-ev,<-R];exact⟨⟨by rw[a2];exact W,by rw[a2];exact Zh _⟩,.inl ⟨a2,.inr rfl⟩⟩
    ·cases n
  ·obtain⟨x,n,R,-⟩:=nY hv;rw[<-ev,R];obtain⟨V,k2⟩:=((up h Q f' r p F G).2 x n).1;exact⟨V,.inr k2⟩
 have b2:∀(h:Nat) (X:List Qm),(kK d.length i j s t q)[h]? =some X->∀u∈X,OV w (WT w (XD s.2 t.2)) u.2:=fun h X e u D=>by
  obtain⟨A,B,Q,S,r2,N,O,p,l,m,J,H,I,L,e'⟩:=c h X e;have u8:L8 u.2:=by rw[e']at D;exact((H.add I).add (R7 L)).q8 u D
  obtain⟨⟨V,k2⟩,-⟩:=a6 h X S r2 e l m u D;rw[Vn w (u8.trans J.symm)]at k2;exact⟨u8,by omega⟩
 have U:∀X∈kK d.length i j s t q,∃h:Nat,(kK d.length i j s t q)[h]? =some X:=fun X hX=>ZC.1 hX
 have vz:∀X∈kK d.length i j s t q,Pl X:=fun X hX=>by
  obtain⟨h,e⟩:=U X hX;obtain⟨A,B,Q,S,r2,N,O,p,l,m,J,H,I,L,rfl⟩:=c h X e;exact(H.add I).add (R7 L)
 obtain⟨y,y1,y2⟩:=zs;obtain⟨z,z1,z2⟩:=zt;have y0:y≠0:=fun e=>s0 (by rw[y1,e];rfl)
 have z0:z≠0:=fun e=>t0 (by rw[z1,e];rfl)
 have yp:0<y.natAbs:=Int.natAbs_pos.2 y0;have zp:0<z.natAbs:=Int.natAbs_pos.2 z0;have a9:∀Q∈q,Q.length<=60:=fun Q p=>by
  obtain⟨h,e⟩:=ZC.1 p;have M:h<d.length:=by rw[<-hl];exact(Zb.1 e).1
  obtain⟨r,G,J⟩:=T _ (Yz M);obtain⟨V,k2⟩:=up h Q _ r e (Zf M) G;refine Zy (kZ h8 hw V fun u D=> ?_) a5;obtain⟨⟨⟨-,k3⟩,-⟩,-⟩:=k2 u D;rw[Vn w ((V.q8 u D).trans J.symm)]at k3;exact⟨V.q8 u D,by omega⟩
 have a3:∀Q∈q,∀u∈Q,Bq 9 u.1:=fun Q p u D=>by
  obtain⟨h,e⟩:=ZC.1 p;have M:h<d.length:=by rw[<-hl];exact(Zb.1 e).1
  obtain⟨r,G,J⟩:=T _ (Yz M);exact((up h Q _ r e (Zf M) G).2 u D).2
 have hP:lk q.flatten<=(4294967296^9)^200:=by
  refine Zy (tD (Z:=4294967296^9) fun u D=> ?_) (Nat.pow_le_pow_right (YL (by decide)) ?_)
  ·obtain⟨Q,p,D⟩:=List.mem_flatten.1 D;exact Nat.le_of_lt (a3 Q p u D).2
  ·have h1:=P4 a9;have h2:q.length*60<=3*60:=Zp _ (by omega);omega
 have Y:=nP q.flatten;generalize a8:lk q.flatten=P at hP Y;have hD:y.natAbs*z.natAbs*P<=144*(4294967296^9)^200:=ZU (ZU y2 z2) hP;have a7:0<y.natAbs*z.natAbs*P:=Yn (Yn yp zp) Y;have hY:1<=4294967296^9:=YL (by decide);generalize hZ:4294967296^9=Z at hD hY;have b3:y.natAbs*z.natAbs*P<=Z*(y.natAbs*z.natAbs*P):=YQ _ hY;have hX:3*(Z*(y.natAbs*z.natAbs*P))<=NG:=by
  unfold NG;rw[hZ];exact Z9 _ (Z9 _ hD)
 have b0:((y.natAbs*z.natAbs*P:Nat):Rat)=((y.natAbs:Nat):Rat)*((z.natAbs:Nat):Rat)*(P:Rat):=by rw[Y9,Y9]
 have E:∀{x:Int} {b:Nat},x≠0->Fr (x.natAbs*b) b ((x:Rat)⁻¹):=fun{x b} n=>by
  obtain⟨e,e1,e2⟩:=eW x n;have b1:(x:Rat)≠0:=fun h=>n ((Rat.intCast_inj (a:=x) (b:=0)).1 (by simpa using h))
  refine⟨e*b,?_,by rw[Yf,e2,Z3,ZZ];exact Zh _⟩;rw[Y9,e1,Yg,Yg,YS];have :(x:Rat)⁻¹*((e:Rat)*(x:Rat)*(b:Rat))=(e:Rat)*(b:Rat)*((x:Rat)⁻¹*(x:Rat)):=by grind
  rw[this,Rat.inv_mul_cancel _ b1,Rat.mul_one]
 have fA:Fr (y.natAbs*z.natAbs*P) (Z*(y.natAbs*z.natAbs*P)) s.1⁻¹:=by
  rw[y1,Yi];refine(E y0).mono ?_;rw[<-Yi Z];exact YQ _ (Yn hY yp)
 have fB:Fr (y.natAbs*z.natAbs*P) (Z*(y.natAbs*z.natAbs*P)) (-t.1⁻¹):=by
  rw[z1,ZH y.natAbs,Yi];refine(E z0).neg.mono ?_;rw[<-Yi Z];exact YQ _ (Yn hY zp)
 refine⟨?_,vz,⟨y.natAbs*z.natAbs*P,a7,by omega,fun X K=> ?_⟩,fun X K=> ?_,a6,fun X e=> ?_⟩
 ·unfold kK;rw[List.length_zipWith,List.length_zipWith,ZT,ZT,ZP,Ys,hl,Nat.min_self,Nat.min_self]
 ·obtain⟨h,e⟩:=U X K;obtain⟨A,B,Q,S,r2,N,O,p,l,m,J,H,I,L,rfl⟩:=c h X e;have f1:QL (y.natAbs*z.natAbs*P) (Z*(y.natAbs*z.natAbs*P)) A:=fun x n=>by
   rcases N with⟨-,rfl⟩|⟨-,rfl⟩
   ·rw[Ym.1 n];exact fA
   ·cases n
  have S:QL (y.natAbs*z.natAbs*P) (Z*(y.natAbs*z.natAbs*P)) B:=fun x n=>by
   rcases O with⟨-,rfl⟩|⟨-,rfl⟩
   ·rw[Ym.1 n];exact fB
   ·cases n
  have f3:QL (y.natAbs*z.natAbs*P) (Z*(y.natAbs*z.natAbs*P)) Q:=fun x n=>by
   have a0:=Zn p;refine BQ (by rw[<-hZ];exact Nat.le_of_lt (a3 Q a0 x n).1) (Nat.dvd_trans ?_ (Nat.dvd_mul_left ..));rw[<-a8];exact nQ (List.mem_flatten.2 ⟨Q,a0,n⟩)
  exact(QL.WB (H.add I).q8 (R7 L).q8 (QL.WB H.q8 I.q8 f1 S) f3.U3).mono (by omega)
 ·obtain⟨h,e⟩:=U X K;have:=kZ h8 hw (vz X K) (b2 h X e);omega
 ·obtain⟨A,B,Q,S,r2,N,O,p,l,m,J,H,I,L,rfl⟩:=c i X e;rw[hf]at l;cases l;rw[hs]at m;cases m;have hA:A=[((s.1⁻¹:Rat),X6 (XD s.2 t.2) s.2)]:=by
   rcases N with⟨-,h⟩|⟨h,-⟩
   ·exact h
   ·exact absurd rfl h
  have hB:B=[]:=by
   rcases O with⟨h,-⟩|⟨-,h⟩
   ·omega
   ·exact h
  subst hA hB;rw[pB (H.add I).q8 (R7 L).q8,Ac,WY,QB,if_pos rfl,aI,Oc fun u D h=> ?_]
  ·grind
  ·obtain⟨⟨-,k⟩,-⟩:=(up i Q f s p hf hs).2 u D;rw[h,a1]at k;exact WE.zh k
end Go.Proofs.YtidginchkjhobaaGreat
namespace Go.Proofs.YtidginchkjhobaaGreat
open Go.Ev Go.Num
variable {o:List (List Int)}{w:List Nat}
theorem QW {B:Xs}(k:Std B){p h:PL}(v:SG h o)(m:V3 o)(e:o.length<1000000){f:List Qm}(q:PQ p f)(l:f.length<100000){s:Qm}(g:XU o f=some s):
  ∃n a d b,Xx B 61 [.one p,.one h] (.XZ [.agg (.bool n::a::.bool d::b::mo s.2),.one (.bool true)])/\RP [.bool n,a,.bool d,b] s.1/\XE s.2:=by
 cases f with
 |nil=>cases g
 |cons t w=>
  simp only[Zi]at l;obtain⟨c,i,j⟩:=vy k v m e q (by omega);obtain⟨n,a,d,b,rfl,r,u⟩:=j;cases g;exact⟨n,a,d,b,i,r,u⟩
theorem EI {n:Nat}(c:n<=60):2*12*12*(2*12)^n*12<4294967296^9:=by
 have a:(2*12)^n<=(2*12)^60:=Nat.pow_le_pow_right (by decide) c;have b:=Zp 12 (Z9 (2*12*12) a);exact Z6 b (by decide)
theorem yG {B:Xs}(C:dJ B){l:List (List Qm)}(W:On o w l){lo G:PL}(so:SG lo o)(hv:Xx B 50 [.one lo] (.one (.bool true)))(D:∀f∈l,Sa 2 9 3 f)(Y:∀f∈l,f≠[])(d5:l.length<=3)(a5:∀V,V<=64->(allM w V).length<=60){v:List PL}(sg:Sl G (Xf v))(N:Ut v l)
  {i j:Nat} (d0:i<j) {p q:PL} {f g:List Qm} (hp:v[i]? =some p) (hq:v[j]? =some q) (H:l[i]? =some f) (hg:l[j]? =some g):
  ∃s t xs L,XU o f=some s/\XU o g=some t/\(X1 B fun E _=>p7 E G lo p q i j v.length xs)/\Ut xs L/\Cj o w l i j s t L:=by
 have M:=Zn H;have P:=Zn hg;have d3:j<l.length:=(Zb.1 hg).1;have c9:=N.length;have I:∀f∈l,Sa 3 12 4 f:=fun f H=>(D f H).mono (by omega) (by omega) (by omega)
 have gf:=I f M;have gg:=I g P;obtain⟨p',a6,pf⟩:=N.get H;rw[hp]at a6;cases a6;obtain⟨q',a7,pg⟩:=N.get hg;rw[hq]at a7;cases a7;obtain⟨s,U,es⟩:=NR (o:=o) (Y f M);obtain⟨t,T,et⟩:=NR (o:=o) (Y g P);have F:QM o w 12 l (s,f,U,0):=gB (by omega) W M (n:=4) (by omega) gf es 0;have J:QM o w 12 l (t,g,T,0):=gB (by omega) W P (n:=4) (by omega) gg et 0;have hs:XU o f=some s:=F.ld;have ht:XU o g=some t:=J.ld;have a8:=(XW F.pl F.ld).1;have b0:=(XW J.pl J.ld).1;have a0:WT w (XD s.2 t.2)<=64:=by
  have h1:WT w s.2<=16*2:=W.le 2 _ ((D f M).my _ a8);have h2:WT w t.2<=16*2:=W.le 2 _ ((D g P).my _ b0);have:=NI w s.2 t.2;omega
 have e5:WT w (R8 (s,f,U,0) (t,g,T,0))<=64:=a0;have Z:(allM w (WT w (XD s.2 t.2))).length<=60:=a5 _ a0;have a4:(Az o w (s,f,U,0) (t,g,T,0)).length<=60:=Zy (Zy (List.length_filter_le ..) (Qe _)) Z;have d6:=EI a4;have m:wU (s,f,U,0) (t,g,T,0):=qv (k:=9) (by decide) (by decide) W.w8 W.wp (by omega) F J;have l1:=gf.len;have l2:=gg.len;obtain⟨r0,r1,r2⟩:=qQ C so W.o8 W.ol hv pf pg (Qz gf.pl) (Qz gg.pl) (by omega) (by omega) es et m.ht m.t0 m.hs m.s0 m.zt m.zs m.ot m.os m.rt m.rs;have cx:=W.cx (c:=12) (n:=4) (k:=9) (by omega) (by omega) (by decide) (V:=WT w (R8 (s,f,U,0) (t,g,T,0))) (by omega) I;have d9:=yV W.w8 W.wp F J;obtain⟨n,tq,tr,Qs,R,S⟩:=dj cx d9 (by omega) (PB F J) (fun u hu=>by
  obtain⟨h1,h2⟩:=dP F J u hu;exact lE W.w8 W.wp h1 h2) (qw F J) (by omega) d6
 have a9:(kC (s,f,U,0) (t,g,T,0)).length<60000:=by
  have:=kZ W.w8 W.wp (PB F J) fun u hu=>(dP F J u hu).1
  have :(allM w (WT w (R8 (s,f,U,0) (t,g,T,0)))).length<=60:=Z;omega
 have fi:=zy o cx.Ga;obtain⟨d8,e7,e1,e2,e3⟩:=nO C so W.o8 W.ol hv sg N (fun f H=>⟨Qz (I f H).pl,by have:=(I f H).len;omega⟩) (by omega) (lp:=.Xp r0) (p:=kC (s,f,U,0) (t,g,T,0)) ⟨_,.Xp,r2⟩ (Qz (PB F J)) a9 (by
   have :(Ws o l 0).length<=l.length:=by
    have key:∀(l:List (List Qm)) (i:Nat),(Ws o l i).length<=l.length:=by
     intro l;induction l with
     |nil=>intro i;exact Zh _
     |cons f l ih=>
      intro i;have:=ih (i+1);unfold Ws;split
      ·simp only[Zi];omega
      ·simp only[Zi];omega
    exact key l 0
   omega) (fun d F=>by
   obtain⟨j,hj⟩:=ZC.1 F;exact(Zb.1 (fi.at_ j d hj)).1) S.prog S.Gq S.Gp S.Gn S.Gm
 rw[S.same]at e2;have c7:=S.FP;obtain⟨n1,a1,d1,b1,c1,c2,ms⟩:=QW C.toStd so W.o8 W.ol pf (by omega) hs;obtain⟨n2,a2,d2,b2,c3,c4,mt⟩:=QW C.toStd so W.o8 W.ol pg (by omega) ht;have s8:=ms.1;have t8:=mt.1;have ml:XE (XD s.2 t.2):=OV.ok (w:=w) (W:=64) ⟨No s8 t8,a0⟩ W.w8 W.wp (by omega);have k1:=fw C.toStd ms mt;have k2:=PM C.toStd ml ms (TD _ _ (s8.trans t8.symm));have k3:=PM C.toStd ml mt (Sr _ _ (s8.trans t8.symm));obtain⟨x,i1,i2⟩:=N5 C.toStd c2 m.ht m.t0;obtain⟨y,i3,i4⟩:=N5 C.toStd c4 m.hs m.s0;obtain⟨z,i5,i6⟩:=fh C.toStd i4 m.hs.inv;obtain⟨x1,x2,x3,x4,rfl⟩:=i2.len;obtain⟨y1,y2,y3,y4,rfl⟩:=i4.len;obtain⟨z1,z2,z3,z4,rfl⟩:=i6.len;have b3:L8 (X6 (XD s.2 t.2) s.2):=Vs ml.1 s8;have b4:L8 (X6 (XD s.2 t.2) t.2):=Vs ml.1 t8;have mu:XE (X6 (XD s.2 t.2) s.2):=TN ml ms;have mw:XE (X6 (XD s.2 t.2) t.2):=TN ml mt;have u1:=eC C.toStd (i:=i) (n:=v.length) (a:=.bool x1) (b:=x2) (c:=.bool x3) (d:=x4) b3 (by omega) (by omega);have u2:=eC C.toStd (i:=j) (n:=v.length) (a:=.bool z1) (b:=z2) (c:=.bool z3) (d:=z4) b4 (by omega) (by omega);have b7:∀Q∈Qs,Sz Q/\Q.length<400000:=fun Q hQ=>⟨(S.F6 Q hQ).1,by have:=(S.F6 Q hQ).2;omega⟩
 obtain⟨b5,v1,v2⟩:=jr C.toStd e2 b7;have e6:=e2.length;have v3:=n9 C.toStd (V:=.Xp (Xf d8)) .Xp (by omega) v1;have pU:Ut ((List.replicate v.length .XC).set i (.Xp [.bool x1::x2::.bool x3::x4::mo (X6 (XD s.2 t.2) s.2)])) ((List.replicate v.length []).set i [(s.1⁻¹,X6 (XD s.2 t.2) s.2)]):=(fe _).set ⟨_,.Xp,.cons (W9.mk i2 mu) .nil⟩ i;have pW:Ut ((List.replicate v.length .XC).set j (.Xp [.bool z1::z2::.bool z3::z4::mo (X6 (XD s.2 t.2) t.2)])) ((List.replicate v.length []).set j [(-t.1⁻¹,X6 (XD s.2 t.2) t.2)]):=(fe _).set ⟨_,.Xp,.cons (W9.mk i6 mw) .nil⟩ j;have a3:∀(i:Nat) (x:Qm),Sq x.1->∀f∈(List.replicate v.length ([]:List Qm)).set i [x],Sz f/\f.length<400000:=fun i x hx f H=>by
  rcases List.mem_or_eq_of_mem_set H with h|rfl
  ·rw[(List.mem_replicate.1 h).2];exact⟨Sz.nil,by simp⟩
  ·exact⟨fun y hy=>by rw[Ym.1 hy];exact hx,by simp⟩
 obtain⟨o1,w1,w2⟩:=aO C.toStd pU pW (by simp) (a3 i _ m.ht.inv) (a3 j _ m.hs.inv.neg);have c8:Sa 2 9 3 f:=D f M;have zs:∃z:Int,s.1=(z:Rat)/\z.natAbs<=12:=gf.cf s a8;have zt:∃z:Int,t.1=(z:Rat)/\z.natAbs<=12:=gg.cf t b0;have d4:∀f∈l,∃r,XU o f=some r/\L8 r.2:=fun f H=>by
  cases hr:XU o f with
  |none=>exact absurd (Tt hr) (Y f H)
  |some r=>exact⟨r,rfl,(XW (I f H).pl hr).2.1⟩
 have d7:∀(h:Nat) (Q f:List Qm) (r:Qm),Qs[h]? =some Q->l[h]? =some f->XU o f=some r->Pl Q/\∀u∈Q,(OV w (WT w (XD s.2 t.2)) (Xg u.2 r.2)/\WE o (Xg u.2 r.2) (XD s.2 t.2))/\Bq 9 u.1:=fun h Q f r h1 h2 h3=>by
  obtain⟨m1,m2⟩:=S.up h Q f r h1 h2 h3;exact⟨m1,fun u hu=>by
   obtain⟨n1,n2⟩:=m2 u hu;exact⟨ao W.w8 W.wp n1,n2⟩⟩
 have SV:=AZ W.w8 W.wp d5 d0 d3 H hg hs ht s8 t8 m.t0 m.s0 zs zt Z c7 d4 d7;have b6:∀X∈List.zipWith WB ((List.replicate v.length []).set i [(s.1⁻¹,X6 (XD s.2 t.2) s.2)]) ((List.replicate v.length []).set j [(-t.1⁻¹,X6 (XD s.2 t.2) t.2)]),Sz X/\X.length<400000:=fun X hX=>by
  obtain⟨h,e⟩:=ZC.1 hX;obtain⟨A,B',e3,e4,rfl⟩:=dL e;rcases NN e3 with⟨h1,rfl⟩|⟨h1,rfl⟩
  ·rcases NN e4 with⟨h2,rfl⟩|⟨h2,rfl⟩
   ·omega
   ·rw[WY];exact⟨fun y hy=>by rw[Ym.1 hy];exact m.ht.inv,by simp⟩
  ·rw[Wd];exact a3 j _ m.hs.inv.neg B' (Zn e4)
 have e0:∀X∈Qs.map U3,Sz X/\X.length<400000:=fun X hX=>by
  obtain⟨Q,hQ,rfl⟩:=ZQ.1 hX;obtain⟨q1,q2⟩:=b7 Q hQ;exact⟨q1.neg,by unfold U3 Uc;rw[ZP];exact q2⟩
 obtain⟨o2,w3,w4⟩:=aO C.toStd w2 v2 (by rw[List.length_zipWith,ZT,ZT,ZP,Ys,Nat.min_self];omega) b6 e0;have w5:=fv C.toStd (O:=.Xp (Xf [.Xp (Xf ((List.replicate v.length .XC).set j (.Xp [.bool z1::z2::.bool z3::z4::mo (X6 (XD s.2 t.2) t.2)]))),.Xp (Xf b5)])) (vs:=(List.replicate v.length .XC).set i (.Xp [.bool x1::x2::.bool x3::x4::mo (X6 (XD s.2 t.2) s.2)])) (os:=[.Xp (Xf ((List.replicate v.length .XC).set j (.Xp [.bool z1::z2::.bool z3::z4::mo (X6 (XD s.2 t.2) t.2)]))),.Xp (Xf b5)]) (out:=o2) .Xp (by simp;omega) (by simp) ((w1.and w3).mono fun E K ⟨e1,e2⟩=>.cons .Xp e1 (.cons .Xp e2 (.nil _)));rw[<-c9]at SV;refine⟨s,t,o2,_,hs,ht,?_,w4,SV⟩;exact(r1.Xj.and (e1.Xj.and (c1.Xj.and (c3.Xj.and (k1.Xj.and (k2.Xj.and (k3.Xj.and (i1.Xj.and (i3.Xj.and (u1.Xj.and (i5.Xj.and (u2.Xj.and (v3.Xj.and w5.Xj))))))))))))).mono fun E K ⟨f1,f2,f3,f4,f5,f6,f7,f8,f9,b8,b9,c0,c5,c6⟩=>⟨_,_,_,_,_,_,_,_,_,_,_,_,_,_,_,_,_,_,_,_,_,_,_,_,_,_,_,_,_,_,_,s8,t8,ml.1,b3,b4,f1,f2,f3,f4,f5,f6,f7,f8,f9,b8,b9,c0,c5,c6⟩
end Go.Proofs.YtidginchkjhobaaGreat
namespace Go.Proofs.YtidginchkjhobaaGreat
open Go.Ev Go.Num
variable {o:List (List Int)}{w:List Nat}
abbrev Ck (i j n k:Nat):Prop:=(i,j,n,k)=(0,1,2,0)\/(i,j,n,k)=(0,1,3,0)\/(i,j,n,k)=(0,2,3,1)\/(i,j,n,k)=(1,2,3,2)
theorem Bp {i j n:Nat}(a:i<j)(b:j<n)(c:n<=3):∃k,Ck i j n k:=by
 have :(i=0/\j=1/\n=2)\/(i=0/\j=1/\n=3)\/(i=0/\j=2/\n=3)\/(i=1/\j=2/\n=3):=by omega
 rcases this with⟨rfl,rfl,rfl⟩|⟨rfl,rfl,rfl⟩|⟨rfl,rfl,rfl⟩|⟨rfl,rfl,rfl⟩
 ·exact⟨0,.inl rfl⟩
 ·exact⟨0,.inr (.inl rfl)⟩
 ·exact⟨1,.inr (.inr (.inl rfl))⟩
 ·exact⟨2,.inr (.inr (.inr rfl))⟩
def sh (o:List (List Int))(w:List Nat)(fs:List (List Qm))(xss:List (List PL)):Prop:=
 ∀i j k,Ck i j fs.length k->∃f g s t xs L,fs[i]? =some f/\fs[j]? =some g/\XU o f=some s/\XU o g=some t/\xss[k]? =some xs/\Ut xs L/\Cj o w fs i j s t L
theorem xP {B:Xs}(R:dJ B){b:List (List Qm)}(W:On o w b){M G:PL}(so:SG M o)(Y:Xx B 50 [.one M] (.one (.bool true)))(n:∀f∈b,Sa 2 9 3 f)(J:∀f∈b,f≠[])(u:b.length<=3)(v:∀V,V<=64->(allM w V).length<=60){c:List PL}(sg:Sl G (Xf c))(m:Ut c b):
  ∃x,(X1 B fun E _=>ND E G M c.length 0 c x)/\sh o w b x:=by
 have y:=fun{i j:Nat} (I:i<j) {p q:PL} {f g:List Qm} (U:c[i]? =some p) (X:c[j]? =some q) (S:b[i]? =some f) (T:b[j]? =some g)=>yG R W so Y n J u v sg m I U X S T
 match c,b,m,u with
 |[],[],_,_=>exact⟨[],X1.of fun _ _=>.nil _,fun i j k h=>by simp[Ck]at h⟩
 |[p],[f],_,_=>exact⟨[],X1.of fun _ _=>.cons (.nil _) (.nil _),fun i j k h=>by simp[Ck]at h⟩
 |[p,q],[f,g],_,_=>
  obtain⟨s,t,d,L,A,C,D,F,H⟩:=y (i:=0) (j:=1) (by omega) rfl rfl rfl rfl;refine⟨[d],D.mono fun E K e=>.cons (x1:=[d]) (x2:=[]) (.cons e (.nil _)) (.cons (x1:=[]) (x2:=[]) (.nil _) (.nil _)),fun i j k h=> ?_⟩;rcases h with h|h|h|h<;>simp only[Zo,Zi,Zu,Nat.reduceAdd,Nat.reduceEqDiff,false_and,and_false]at h
  obtain⟨rfl,rfl,-,rfl⟩:=h;exact⟨f,g,s,t,d,L,rfl,rfl,A,C,rfl,F,H⟩
 |[p,q,r],[f,g,e],_,_=>
  obtain⟨s,t,d,L,A,C,D,F,H⟩:=y (i:=0) (j:=1) (by omega) rfl rfl rfl rfl;obtain⟨s',t',l,P,Z,k2,k3,k4,k5⟩:=y (i:=0) (j:=2) (by omega) rfl rfl rfl rfl;obtain⟨N,O,a,z,m1,m2,m3,m4,m5⟩:=y (i:=1) (j:=2) (by omega) rfl rfl rfl rfl;refine⟨[d,l,a],(D.and (k3.and m3)).mono fun E K ⟨e1,e2,Q⟩=>.cons (x1:=[d,l]) (x2:=[a]) (.cons e1 (.cons e2 (.nil _))) (.cons (x1:=[a]) (x2:=[]) (.cons Q (.nil _)) (.cons (x1:=[]) (x2:=[]) (.nil _) (.nil _))),fun i j k h=> ?_⟩;rcases h with h|h|h|h<;>simp only[Zo,Zi,Zu,Nat.reduceAdd,Nat.reduceEqDiff,false_and,and_false]at h
  ·obtain⟨rfl,rfl,-,rfl⟩:=h;exact⟨f,g,s,t,d,L,rfl,rfl,A,C,rfl,F,H⟩
  ·obtain⟨rfl,rfl,-,rfl⟩:=h;exact⟨f,e,s',t',l,P,rfl,rfl,Z,k2,rfl,k4,k5⟩
  ·obtain⟨rfl,rfl,-,rfl⟩:=h;exact⟨g,e,N,O,a,z,rfl,rfl,m1,m2,rfl,m4,m5⟩
 |_::_::_::_::_,_::_::_::_::_,_,h=>simp at h
 |[],_::_,h,_=>cases h
 |_::_,[],h,_=>cases h
end Go.Proofs.YtidginchkjhobaaGreat
namespace Go.Proofs.YtidginchkjhobaaGreat
open Go.Ev Go.Num
variable {o:List (List Int)}{w:List Nat}
def Pr (o:List (List Int))(fs vs:List (List Qm))(h:Nat)(m:List Nat):Prop:=∃Q f r u,vs[h]? =some Q/\fs[h]? =some f/\XU o f=some r/\u∈Q/\m=Xg u.2 r.2
structure VI (o:List (List Int))(w:List Nat)(fs:List (List Qm))(D x:Nat)(vs:List (List Qm)):Prop where
 len:vs.length=fs.length
 pl:∀Q∈vs,Pl Q
 fr:∀Q∈vs,QL D x Q
 wt:∀h m,Pr o fs vs h m->OV w 64 m
def mX:Nat:=2400*NG
theorem bH {c:Rat}{m:List Nat}(h0:c≠0)(b:L8 m){f:List Qm}(a:Pl f):Pl (XS c m f):=SM h0 b a
theorem zF {i B:List (List Qm)}{D x E:Nat}(J:VI o w i D x B)(a7:∀f∈i,∃r,XU o f=some r/\L8 r.2){a b:Nat}(a5:a<b)(hb:b<i.length){U f g:List Qm}{t s d:Qm}(F:B[a]? =some U)(hf:i[a]? =some f)(hg:i[b]? =some g)(ht:XU o U=some t)(hs:XU o f=some s)(b0:XU o g=some d)(A:L8 s.2)(a4:L8 d.2)(s0:s.1≠0){m:List Nat}(hm:m=Xg t.2 s.2)(a6:WO (XD s.2 d.2) m=true)
  (a2:∀h c,h<a->Pr o i B h c->WE o c m) (a1:∀h c,Pr o i B h c->aQ o c m) (zs:∃z:Int,s.1=(z:Rat)/\z.natAbs<=12) {L:List (List Qm)} (V:Cj o w i a b s d L) (hE:0<E/\E<=NG/\∀Q∈L,QL E NG Q):
  VI o w i (D*E) (x*mX) (List.zipWith WB B (L.map (XS (-(t.1*s.1)) (X6 m (XD s.2 d.2)))))/\
  ∀h c,Pr o i (List.zipWith WB B (L.map (XS (-(t.1*s.1)) (X6 m (XD s.2 d.2))))) h c->WE o c m\/(c=m/\a<h):=by
 have a3:=J.pl U (Zn F);obtain⟨t1,t8,t0,t4⟩:=XW a3 ht;have O:L8 (XD s.2 d.2):=No A a4;have m8:L8 m:=by rw[hm];exact VU t8 A
 have n:L8 (X6 m (XD s.2 d.2)):=Vs m8 O;have Z:Xg (X6 m (XD s.2 d.2)) (XD s.2 d.2)=m:=by rw[XP];exact Un (O.trans m8.symm) a6
 have a8:OV w 64 m:=J.wt a m ⟨U,f,s,t,F,hf,hs,t1,hm⟩;have K: -(t.1*s.1)≠0:=fun e=>(To t0 s0) (by rw[<-Rat.neg_neg (t.1*s.1),e];rfl)
 generalize a9:X6 m (XD s.2 d.2)=q at n Z;have tm:∀(h:Nat) (X f:List Qm) (r:Qm),L[h]? =some X->i[h]? =some f->XU o f=some r->L8 r.2->∀u∈X,L8 u.2/\OV w 64 (Xg (Xg q u.2) r.2)/\((Xg (Xg q u.2) r.2=m/\(h=a\/h=b))\/WE o (Xg (Xg q u.2) r.2) m):=fun h X f r R hf M r8 u l=>by
  have u8:=(V.pl X (Zn R)).q8 u l;obtain⟨⟨N,H⟩,k3⟩:=V.mem h X f r R hf M u l;have e:Xg (Xg q u.2) r.2=Xg q (Xg u.2 r.2):=UY _ _ _;rw[e];refine⟨u8,⟨VU n N,?_⟩,?_⟩
  ·have p:WT w (Xg q (XD s.2 d.2))=WT w q+WT w (XD s.2 d.2):=Vn w (n.trans O.symm);have C:WT w (Xg q (Xg u.2 r.2))=WT w q+WT w (Xg u.2 r.2):=Vn w (n.trans N.symm);rw[Z]at p;have:=a8.2;omega
  ·rcases k3 with⟨k3,k4⟩|k3
   ·exact .inl ⟨by rw[k3,Z],k4⟩
   ·exact .inr (by have:=k3.add n N O;rwa[Z]at this)
 have split:∀(h:Nat) (Y:List Qm),(List.zipWith WB B (L.map (XS (-(t.1*s.1)) q)))[h]? =some Y->∃Q X,B[h]? =some Q/\L[h]? =some X/\Pl Q/\Pl X/\Y=WB Q (XS (-(t.1*s.1)) q X):=fun h Y e=>by
  obtain⟨Q,T,e1,e2,rfl⟩:=dL e;rw[ZA]at e2;cases R:L[h]? with
  |none=>rw[R]at e2;cases e2
  |some X=>
   rw[R]at e2;cases e2;exact⟨Q,X,e1,rfl,J.pl Q (Zn e1),V.pl X (Zn R),rfl⟩
 have pr:∀h c,Pr o i (List.zipWith WB B (L.map (XS (-(t.1*s.1)) q))) h c->OV w 64 c/\(WE o c m\/(c=m/\a<h)):=by
  rintro h c ⟨Y,f',r,u,W,j,M,l,rfl⟩;obtain⟨Q,X,p,C,P,S,rfl⟩:=split h Y W;obtain⟨r',a0,r8⟩:=a7 f' (Zn j);rw[M]at a0;cases a0;have pT:=bH K n S;have pY:=P.add pT;have u8:=pY.q8 u l;by_cases ha:h=a/\Xg u.2 r.2=m
  ·
   exfalso;obtain⟨rfl,e⟩:=ha;rw[F]at p;cases p;rw[hf]at j;cases j;rw[hs]at M;cases M;have ut:u.2=t.2:=by
    rw[hm,XP u.2,XP t.2]at e;exact Ua (A.trans u8.symm) (A.trans t8.symm) e
   have hc:=pY.O1.Pf u l;rw[ut,pB P.q8 pT.q8]at hc;have c1:S0 U t.2=t.1:=a3.dc.Up t t1;have e2:t.2=Xg q (X6 (XD s.2 d.2) s.2):=by
    have p:Xg (X6 (XD s.2 d.2) s.2) s.2=XD s.2 d.2:=by rw[XP];exact Un (A.trans O.symm) (TD _ _ (A.trans a4.symm))
    have C:Xg (Xg q (X6 (XD s.2 d.2) s.2)) s.2=Xg t.2 s.2:=by rw[UY,p,Z,hm]
    rw[XP _ s.2,XP t.2]at C;exact(Ua (A.trans (VU n (Vs O A)).symm) (A.trans t8.symm) C).symm
   have c2:S0 (XS (-(t.1*s.1)) q X) t.2= -(t.1*s.1)*S0 X (X6 (XD s.2 d.2) s.2):=by
    rw[Ve,Ve,Ro];congr 1;refine U2 fun v hv=> ?_
    unfold V2;have v8:=S.q8 v hv;by_cases G:v.2=X6 (XD s.2 d.2) s.2
    ·rw[if_pos G,if_pos (by rw[G,e2])]
    ·rw[if_neg G,if_neg fun e=>G (by rw[e2]at e;exact Ua (n.trans v8.symm) (n.trans (Vs O A).symm) e)]
   rw[c1,c2,V.co X C]at hc;have hz:t.1+ -(t.1*s.1)*s.1⁻¹=0:=by
    have :s.1*s.1⁻¹=1:=Rat.mul_inv_cancel _ s0;have e:t.1+ -(t.1*s.1)*s.1⁻¹=t.1-t.1*(s.1*s.1⁻¹):=by grind
    rw[e,this];grind
   rw[hz]at hc;exact pY.dc.nz u l hc.symm
  ·rcases Um _ (Zh _) P.q8 pT.q8 l with⟨v,hv,ev⟩|⟨v,hv,ev⟩
   ·have I:Pr o i B h (Xg u.2 r.2):=⟨Q,f',r,v,p,j,M,hv,by rw[ev]⟩;refine⟨J.wt h _ I,?_⟩;rcases Nat.lt_trichotomy h a with e|e|e
    ·exact .inl (a2 h _ e I)
    ·rcases a1 h _ I with k|k
     ·exact absurd ⟨e,k⟩ ha
     ·exact .inl k
    ·rcases a1 h _ I with k|k
     ·exact .inr ⟨k,e⟩
     ·exact .inl k
   ·obtain⟨y,hy,ey,-⟩:=O7 hv;obtain⟨y8,N,H⟩:=tm h X f' r C j M r8 y hy;rw[<-ev,ey];refine⟨N,?_⟩;rcases H with⟨H,rfl|rfl⟩|H
    ·exact absurd ⟨rfl,by rw[<-ev,ey];exact H⟩ ha
    ·exact .inr ⟨H,a5⟩
    ·exact .inl H
 refine⟨⟨?_,fun Y W=> ?_,fun Y W=> ?_,fun h c I=>(pr h c I).1⟩,fun h c I=>(pr h c I).2⟩
 ·rw[List.length_zipWith,ZP,J.len,V.len,Nat.min_self]
 ·obtain⟨h,e⟩:=ZC.1 W;obtain⟨Q,X,p,C,P,S,rfl⟩:=split h Y e;exact P.add (bH K n S)
 ·obtain⟨h,e⟩:=ZC.1 W;obtain⟨Q,X,p,C,P,S,rfl⟩:=split h Y e;have N:QL (D*E) (x*E) Q:=fun u l=>(J.fr Q (Zn p) u l).scale
  obtain⟨z,z1,z2⟩:=zs;have kc:Fr D (x*12) (-(t.1*s.1)):=by
   obtain⟨y,y1,y2⟩:=J.fr U (Zn F) t t1;refine Fr.neg ⟨y*z,?_,by rw[Yf];exact ZU y2 z2⟩;rw[z1,Yg,<-y1];grind
  have H:QL (D*E) (x*12*NG) (XS (-(t.1*s.1)) q X):=fun u l=>by
   obtain⟨y,hy,-,ey⟩:=O7 l;rw[ey];exact kc.mul (hE.2.2 X (Zn C) y hy)
  refine(QL.WB P.q8 (bH K n S).q8 N H).mono ?_;have h3:x*E<=x*NG:=Z9 _ hE.2.1;have h4:x*12*NG=12*(x*NG):=by rw[YX,ZH]
  have h5:x*mX=2400*(x*NG):=by unfold mX;rw[Nat.mul_left_comm]
  omega
end Go.Proofs.YtidginchkjhobaaGreat
namespace Go.Proofs.YtidginchkjhobaaGreat
open Go.Ev Go.Num
variable {o:List (List Int)}{w:List Nat}
def V4 (o:List (List Int))(v f:List Qm):Option (List Nat):=match XU o v,XU o f with
 |some t,some s=>some (Xg t.2 s.2)
 |_,_=>none
theorem vH (i j:Int)(c:List Nat)(k:Nat)(m:List Nat)(d:i=.negSucc 0\/∃a,i=.ofNat a)(e:j=.negSucc 0\/∃b,j=.ofNat b):
  ((Q1 o i j c k m).1=.negSucc 0\/∃a,(Q1 o i j c k m).1=.ofNat a)/\((Q1 o i j c k m).2.1=.negSucc 0\/∃b,(Q1 o i j c k m).2.1=.ofNat b)/\((Q1 o i j c k m).2.2=m\/(Q1 o i j c k m).2.2=c/\i≠.negSucc 0):=by
 unfold Q1;split
 ·exact⟨.inr ⟨k,rfl⟩,.inl rfl,.inl rfl⟩
 ·rename_i h;split
  ·exact⟨.inr ⟨k,rfl⟩,.inl rfl,.inl rfl⟩
  ·split
   ·split
    ·exact⟨d,.inr ⟨k,rfl⟩,.inr ⟨rfl,h⟩⟩
    ·exact⟨d,e,.inr ⟨rfl,h⟩⟩
   ·exact⟨d,e,.inr ⟨rfl,h⟩⟩
theorem qU {B:Xs}(b:Std B){c e:PL}(f:Sl c []):Xx B 61 [.one c,.one e] (.XZ [.agg (.bool false::.XC::.bool false::.XC::mo Tp),.one (.bool false)]):=by
 have d:=f.len;refine Xx.of (b.Wa _ _ rfl) (b.Xj.mono fun E K a=> ?_);simp(decide:=true)only[Xm,Xq,Vg,Vm,reduceIte,Nat.reduceEqDiff,Nat.reduceLeDiff,Nat.reduceLT,Nat.reduceAdd,x61,a,X5,d,Zu];rfl
theorem Br {B:Xs}(a:Std B){p lo:PL}{f:List Qm}(c:PQ p f)(b:f=[]):Xx B 61 [.one p,.one lo] (.XZ [.agg (.bool false::.XC::.bool false::.XC::mo Tp),.one (.bool false)]):=by
 subst b;obtain⟨g,e,d⟩:=c;cases d;exact qU a e
theorem ky {B:Xs}(C:Std B){lo:PL}(P:SG lo o)(I:V3 o)(n:o.length<1000000):∀{Y S:List PL} {l g:List (List Qm)},Ut Y l->Ut S g->l.length=g.length->(∀v∈l,v.length<100000)->(∀f∈g,f≠[]/\f.length<100000)->(∀m,some m∈List.zipWith (V4 o) l g->XE m)->
  ∀(k:Nat) (i j:Int) (c:List Nat),(i=.negSucc 0\/∃a,i=.ofNat a)->(j=.negSucc 0\/∃b,j=.ofNat b)->(i≠.negSucc 0->XE c)->
  X1 B fun E _=>OU E lo k i j c Y S (NP o (List.zipWith (V4 o) l g) k (i,j,c)).1 (NP o (List.zipWith (V4 o) l g) k (i,j,c)).2.1 (NP o (List.zipWith (V4 o) l g) k (i,j,c)).2.2
 |[],_,[],g,.nil,hg,R,_,_,_,k,i,j,c,_,_,_=>by
  cases hg with
  |nil=>exact X1.of fun _ _=>.nil k i j c
  |cons _ _=>simp at R
 |p::Y,_,v::l,fs',.cons hp hv,hg,R,l1,l2,Z,k,i,j,c,hi,hj,ht=>by
  cases hg with
  |nil=>simp at R
  |@cons q f S g hq F=>
   have J:∀v∈l,v.length<100000:=fun x X=>l1 x (Zc _ X)
   have L:∀f∈g,f≠[]/\f.length<100000:=fun x X=>l2 x (Zc _ X)
   have D:l.length=g.length:=by simpa using R
   have G:∀m,some m∈List.zipWith (V4 o) l g->XE m:=fun m h=>Z m (Zc _ h)
   have W:=l1 v (Ze ..);obtain⟨U,T⟩:=l2 f (Ze ..);simp only[Zw];cases u:XU o v with
   |none=>
    have Q:V4 o v f=none:=by unfold V4;rw[u]
    rw[Q];have d:=ky C P I n hv F D J L G (k+1) i j c hi hj ht;have z:=Br C (lo:=lo) hp (Tt u);exact(d.and z.Xj).mono fun E K ⟨e1,e2⟩=>.zero rfl e2 e1
   |some t=>
    cases A:XU o f with
    |none=>exact absurd (Tt A) U
    |some s=>
     have Q:V4 o v f=some (Xg t.2 s.2):=by unfold V4;rw[u,A]
     have H:XE (Xg t.2 s.2):=Z _ (by rw[Zw,Q];exact Ze ..);rw[Q];obtain⟨n1,a1,d1,b1,N,-,mt⟩:=QW C P I n hp W u;obtain⟨n2,a2,d2,b2,O,-,M⟩:=QW C P I n hq T A;obtain⟨c1,c2,c3⟩:=vH (o:=o) i j c k (Xg t.2 s.2) hi hj;have d:=ky C P I n hv F D J L G (k+1) (Q1 o i j c k (Xg t.2 s.2)).1 (Q1 o i j c k (Xg t.2 s.2)).2.1 (Q1 o i j c k (Xg t.2 s.2)).2.2 c1 c2 (fun _=>by
      rcases c3 with e|⟨e,h⟩
      ·rw[e];exact H
      ·rw[e];exact ht h)
     have e1:NP o (some (Xg t.2 s.2)::List.zipWith (V4 o) l g) k (i,j,c)=NP o (List.zipWith (V4 o) l g) (k+1) ((Q1 o i j c k (Xg t.2 s.2)).1,(Q1 o i j c k (Xg t.2 s.2)).2.1,(Q1 o i j c k (Xg t.2 s.2)).2.2):=rfl;rw[e1];clear e1;generalize NP o (List.zipWith (V4 o) l g) (k+1) ((Q1 o i j c k (Xg t.2 s.2)).1,(Q1 o i j c k (Xg t.2 s.2)).2.1,(Q1 o i j c k (Xg t.2 s.2)).2.2)=fin at d;unfold Q1 at d;rcases hi with rfl|⟨a,rfl⟩
     ·rw[if_pos rfl]at d;exact(d.and (N.Xj.and O.Xj)).mono fun E K ⟨e1,e2,r⟩=>.first mt M e2 r e1
     ·have V:=ht (fun h=>by cases h);rw[if_neg (fun h=>by cases h)]at d;have y:=OA C P I H V n;rcases Vy o (Xg t.2 s.2) c with e|e|e
      ·rw[if_pos e]at d;rw[e]at y;exact(d.and (N.Xj.and (O.Xj.and y.Xj))).mono fun E K ⟨e1,e2,r,w⟩=>.gt mt M e2 r w e1
      ·rw[if_neg (by rw[e];intro h;cases h),if_neg (by rw[e];intro h;cases h)]at d;rw[e]at y;exact(d.and (N.Xj.and (O.Xj.and y.Xj))).mono fun E K ⟨e1,e2,r,w⟩=>.lt mt M e2 r w e1
      ·rw[if_neg (by rw[e];intro h;cases h),if_pos e]at d;rw[e]at y;rcases hj with rfl|⟨b,rfl⟩
       ·rw[if_pos rfl]at d;exact(d.and (N.Xj.and (O.Xj.and y.Xj))).mono fun E K ⟨e1,e2,r,w⟩=>.eq mt M e2 r w e1
       ·rw[if_neg (fun h=>by cases h)]at d;exact(d.and (N.Xj.and (O.Xj.and y.Xj))).mono fun E K ⟨e1,e2,r,w⟩=>.Gf mt M e2 r w e1
end Go.Proofs.YtidginchkjhobaaGreat
namespace Go.Proofs.YtidginchkjhobaaGreat
open Go.Ev Go.Num
variable {o:List (List Int)}{w:List Nat}
theorem kE {V:PL}{a:List PL}(h:Sl V (Xf a))(d:0<a.length):V=.Xp (Xf a):=by
 cases b:Xf a with
 |nil=>
  have:=Xr a;rw[b]at this;simp at this;omega
 |cons c e=>
  rw[b]at h;rcases h with h|⟨h,-⟩
  ·exact h
  ·cases h
theorem Qj (b a:List (List Qm))(h:b.length=a.length):(List.zipWith (V4 o) b a).length=a.length:=by
 rw[List.length_zipWith,h,Nat.min_self]
theorem bG {g b:List (List Qm)}{h:Nat}{m:List Nat}(e:(List.zipWith (V4 o) g b)[h]? =some (some m)):∃v f t s,g[h]? =some v/\b[h]? =some f/\XU o v=some t/\XU o f=some s/\m=Xg t.2 s.2:=by
 rw[List.getElem?_zipWith]at e;cases c:g[h]? with
 |none=>rw[c]at e;cases e
 |some v=>
  cases i:b[h]? with
  |none=>rw[c,i]at e;cases e
  |some f=>
   rw[c,i]at e;simp only[Za]at e;unfold V4 at e;cases a:XU o v with
   |none=>rw[a]at e;cases e
   |some t=>
    cases d:XU o f with
    |none=>rw[a,d]at e;cases e
    |some s=>
     rw[a,d]at e;cases e;exact⟨v,f,t,s,rfl,rfl,a,d,rfl⟩
theorem kV {c k:List (List Qm)}(g:∀Q∈k,Pl Q)(e:∀f∈c,∃r,XU o f=some r/\L8 r.2){h:Nat}{m:List Nat}(w:Pr o c k h m):∃i,(List.zipWith (V4 o) k c)[h]? =some (some i)/\aQ o m i/\L8 m/\L8 i:=by
 obtain⟨Q,f,r,u,l,n,p,b,rfl⟩:=w;obtain⟨y,a,j⟩:=e f (Zn n);rw[p]at a;cases a;have q:=g Q (Zn l);cases d:XU o Q with
 |none=>rw[Tt d]at b;cases b
 |some t=>
  obtain⟨A,s,z,x⟩:=XW q d;have v:=q.q8 u b;refine⟨Xg t.2 r.2,?_,?_,VU v j,VU s j⟩
  ·rw[List.getElem?_zipWith,l,n];show some (V4 o Q f)=_;unfold V4;rw[d,p]
  ·rcases x u b with rfl|h
   ·exact .inl rfl
   ·refine .inr ?_;have:=h.add j v s
    rwa[XP r.2,XP r.2]at this
structure FE (B:Xs)(o:List (List Int))(w:List Nat)(lo G:PL)(gs:List PL)(fs:List (List Qm))(xss:List (List PL))(k C:Nat):Prop where
 hB:iH B
 W:On o w fs
 so:SG lo o
 gen:∀f∈fs,Sa 2 9 3 f
 ne:∀f∈fs,f≠[]
 n3:fs.length<=3
 num:∀V,V<=64->(allM w V).length<=60
 sg:Sl G (Xf gs)
 gf:Ut gs fs
 Gr:sh o w fs xss
 k7:k<10000000
 C:C<4294967296^k
theorem FE.ld {B:Xs}{g G:PL}{e:List PL}{b:List (List Qm)}{a:List (List PL)}{k C:Nat}(X:FE B o w g G e b a k C):∀f∈b,∃r,XU o f=some r/\L8 r.2:=fun f c=>by
 cases d:XU o f with
 |none=>exact absurd (Tt d) (X.ne f c)
 |some r=>exact⟨r,rfl,(XW (X.gen f c).pl d).2.1⟩
structure CI (D x R:Nat)(cs:List PL)(ys:List (List Qm)):Prop where
 pq:Ut cs ys
 fr:∀Q∈ys,QL D x Q/\Q.length+R<=10000/\Q8 Q
theorem yS:1<=mX:=by
 unfold mX NG;exact Yn (by decide) (Yn (by decide) (Yn (YL (by decide)) (Yn (by decide) (YL (YL (by decide))))))
theorem jK {B:Xs}{lo G:PL}{gs:List PL}{l:List (List Qm)}{c8:List (List PL)}{k C:Nat}(X:FE B o w lo G gs l c8 k C){D x R:Nat}{V:PL}{lv:List PL}{vs:List (List Qm)}{cs:List PL}{ys:List (List Qm)}(hD:0<D)(d0:D<=x)(hx:x*mX<=C)(sv:Sl V (Xf lv))(pv:Ut lv vs)(A:VI o w l D x vs)(hc:CI D x (R+1) cs ys)(i1:cs.length=c8.length):
  (∃i m,m.length=8/\X1 B fun E _=>E.pure 60 [.one V,.one G,.one lo]=some (.XZ [.one (.int .i64 i),.one (.int .i64 (.negSucc 0)),.agg (mo m)]))\/
  (∃a m S d d9 c7 I c9 k0,(X1 B fun E _=>Ea E G lo gs (oi c8) lv cs V S d d9)/\c9=cs.set S (.Xp d)/\a+1<l.length/\0<I/\I<=NG/\Ut d9 c7/\VI o w l (D*I) (x*mX) c7/\CI (D*I) (x*mX) R c9 k0/\OV w 64 m/\Pr o l vs a m/\(∀h U,h<a->Pr o l vs h U->WE o U m)/\(∀h U,Pr o l vs h U->aQ o U m)/\∀h U,Pr o l c7 h U->WE o U m\/(U=m/\a<h)):=by
 have N:=X.hB.toStd;have o8:=X.W.o8;have ol:=X.W.ol;have w8:=X.W.w8;have wp:=X.W.wp;have l4:=pv.length;have l7:=A.len;have i2:=X.gf.length;have n3:=X.n3;have hM:=yS;have d7:x<=C:=Zy (YK _ hM) hx;have i8:1<=x:=by omega
 have l5:2400*(x*NG)=x*mX:=by unfold mX;rw[Nat.mul_left_comm]
 have l6:NG<=x*NG:=YQ _ i8;have l9:x<=x*NG:=by
  refine YK _ ?_;unfold NG;exact Yn (by decide) (Yn (YL (by decide)) (Yn (by decide) (YL (YL (by decide)))))
 have a0:∀Q∈vs,Sz Q/\Q.length<=60:=fun Q hQ=>by
  refine⟨fun u H=>(A.fr Q hQ u H).sq X.k7 hD (by omega) d7 X.C,?_⟩;obtain⟨h,e⟩:=ZC.1 hQ;have hh:h<l.length:=by rw[<-A.len];exact(Zb.1 e).1
  obtain⟨r,hr,r8⟩:=X.ld _ (Yz hh);refine Zy (kZ w8 wp (A.pl Q hQ) fun u H=> ?_) (X.num 64 (Zh _));have u8:=(A.pl Q hQ).q8 u H;obtain⟨k1,k2⟩:=A.wt h _ ⟨Q,_,r,u,e,Zf hh,hr,H,rfl⟩;rw[Vn w (u8.trans r8.symm)]at k2;exact⟨u8,by omega⟩
 have b9:∀f∈l,f≠[]/\f.length<100000:=fun f hf=>⟨X.ne f hf,by have:=(X.gen f hf).len;omega⟩
 have pw:∀h m,(List.zipWith (V4 o) vs l)[h]? =some (some m)->OV w 64 m:=fun h m e=>by
  obtain⟨v,f,t,s,h1,h2,h3,h4,rfl⟩:=bG e;exact A.wt h _ ⟨v,f,s,t,h1,h2,h4,(XW (A.pl v (Zn h1)) h3).1,rfl⟩
 have e0:∀m,some m∈List.zipWith (V4 o) vs l->OV w 64 m:=fun m hm=>by
  obtain⟨h,e⟩:=ZC.1 hm;exact pw h m e
 have ht:=uL N sv X.sg (by omega) (ky N X.so o8 ol pv X.gf A.len (fun v hv=>by have:=(a0 v hv).2;omega) b9 (fun m hm=>(e0 m hm).ok w8 wp (by omega)) 0 (.negSucc 0) (.negSucc 0) Tp (.inl rfl) (.inl rfl) fun h=>absurd rfl h);have sp:=bd (o:=o) (ps:=List.zipWith (V4 o) vs l) (fun m hm=>(e0 m hm).1) (List.zipWith (V4 o) vs l) 0 (.negSucc 0,.negSucc 0,Tp) rfl (.inl ⟨rfl,rfl,fun h hh=>by omega⟩);have h8:∀Z:Int×Int×List Nat,DZ o (List.zipWith (V4 o) vs l) (List.zipWith (V4 o) vs l).length Z->Z.1≠.negSucc 0->Z.2.2.length=8:=fun Z h i4=>by
  rcases h with⟨h,-⟩|⟨a,-,-,-,h,-⟩
  ·exact absurd h i4
  ·exact h
 generalize i6:NP o (List.zipWith (V4 o) vs l) 0 (.negSucc 0,.negSucc 0,Tp)=Z at ht sp;obtain⟨i,j,m⟩:=Z;rcases sp with⟨h1,h2,h3⟩|⟨a,h1,h2,h3,h4,h5,h6,h7⟩
 ·
  left;have g8:i=.negSucc 0:=h1;have b7:j=.negSucc 0:=h2;subst g8 b7;have d5:∀(r:List (Option (List Nat))) (k:Nat) (Z:Int×Int×List Nat),(∀p∈r,p=none)->NP o r k Z=Z:=by
   intro r;induction r with
   |nil=>intro k Z _;rfl
   |cons p r ih=>
    intro k Z P;have:=P p (Ze ..);subst this;exact ih (k+1) Z fun q hq=>P q (Zc _ hq)
  have e:=d5 (List.zipWith (V4 o) vs l) 0 (.negSucc 0,.negSucc 0,Tp) fun p P=>by
   obtain⟨h,eh⟩:=ZC.1 P;have:=h3 h (Zb.1 eh).1;rw[eh]at this;cases this;rfl
  rw[i6]at e;cases e;exact⟨_,_,rfl,ht.Xj⟩
 ·have b7:i=.ofNat a:=h2;subst b7;rcases h7 with h7|⟨b,b1,b2,b3,b4⟩
  ·have g9:j=.negSucc 0:=h7;subst g9;exact .inl ⟨_,m,h4,ht.Xj⟩
  ·right;have e8:j=.ofNat b:=b1;subst e8;rw[Qj vs l A.len]at b3;obtain⟨va,f,t,s,g1,g2,g3,g4,g5⟩:=bG h3;obtain⟨vb,g,t',n,l1,a6,l2,a7,b6⟩:=bG b4;have g5:m=Xg t.2 s.2:=g5;have b6:m=Xg t'.2 n.2:=b6;have a9:OV w 64 m:=pw a m h3;obtain⟨S,hk⟩:=Bp b2 b3 n3;obtain⟨f0,g0,s0,m3,xs,L,q1,q2,q3,q4,q5,q6,SV⟩:=X.Gr a b S hk;rw[g2]at q1;cases q1;rw[a6]at q2;cases q2;rw[g4]at q3;cases q3;rw[a7]at q4;cases q4;have fm:=Zn g2;have gm:=Zn a6;obtain⟨s1,s8,sn,-⟩:=XW (X.gen f fm).pl g4;obtain⟨j5,b0,m4,-⟩:=XW (X.gen g gm).pl a7;have b5:=Zn g1;obtain⟨t1,t8,tn,-⟩:=XW (A.pl va b5) g3;have l8:L8 (XD s.2 n.2):=No s8 b0;have m8:=a9.1;have b8:WO (XD s.2 n.2) m=true:=gE (s8.trans m8.symm) (b0.trans m8.symm) (by rw[g5,XP];exact Qy _ _) (by rw[b6,XP];exact Qy _ _);have i7:WT w (XD s.2 n.2)<=64:=by
    have h1:=X.W.le 2 _ ((X.gen f fm).my _ s1);have h2:=X.W.le 2 _ ((X.gen g gm).my _ j5);have:=NI w s.2 n.2;omega
   have mm:XE m:=a9.ok w8 wp (by omega);have ml:XE (XD s.2 n.2):=OV.ok (w:=w) (W:=64) ⟨l8,i7⟩ w8 wp (by omega);have mq:XE (X6 m (XD s.2 n.2)):=TN mm ml;obtain⟨p,P,pp⟩:=X.gf.get g2;obtain⟨q,hq,pq⟩:=X.gf.get a6;obtain⟨r,hr,j4⟩:=pv.get g1;obtain⟨n1,x1,d1,e1,c1,c2,ms⟩:=QW N X.so o8 ol pp (b9 f fm).2 g4;obtain⟨n2,x2,d2,e2,c3,c4,j2⟩:=QW N X.so o8 ol pq (b9 g gm).2 a7;obtain⟨m2,x3,d3,e3,c5,c6,mt⟩:=QW N X.so o8 ol j4 (by have:=(a0 va b5).2;omega) g3;have k1:=fw N ms j2;have k2:=PM N mm ml b8;obtain⟨z,z1,z2⟩:=(X.gen f fm).cf s s1;have j7:Sq s.1:=by rw[z1];exact Sq.int (by omega)
   have j8:Sq t.1:=(a0 va b5).1 t t1;obtain⟨c,k3,k4⟩:=PG N c6 c2 j8 j7;obtain⟨y1,y2,y3,y4,rfl⟩:=k4.len;have d6:Xx B 65 [.one (.int .i64 (.ofNat a)),.one (.int .i64 (.ofNat b)),.one (.int .i64 (.ofNat gs.length))] (.one (.int .i64 (.ofNat S))):=by
    have :gs.length=l.length:=i2;rw[this];exact kX N hk
   have a5:Fr D (x*12) (t.1*s.1):=by
    obtain⟨y,a1,a2⟩:=A.fr va b5 t t1;refine⟨y*z,?_,by rw[Yf];exact ZU a2 (by omega)⟩;rw[z1,Yg,<-a1];grind
   have j6:Sq (t.1*s.1):=a5.sq X.k7 hD (C:=C) (by omega) (by omega) X.C;have cn:t.1*s.1≠0:=To tn sn;have pF:PQ (.Xp [.bool y1::y2::.bool y3::y4::mo (X6 m (XD s.2 n.2))]) [(t.1*s.1,X6 m (XD s.2 n.2))]:=⟨_,.Xp,.cons (W9.mk k4 mq) .nil⟩;have e6:Sz [(t.1*s.1,X6 m (XD s.2 n.2))]:=fun v hv=>by rw[Ym.1 hv];exact j6
   obtain⟨F',k5,k6⟩:=bF N (lp:=.XC) (ts:=[]) ⟨[],.nil,.nil⟩ pF Sz.nil e6 (by simp) (by simp);have eN:WB [] (U3 [(t.1*s.1,X6 m (XD s.2 n.2))])=[(-(t.1*s.1),X6 m (XD s.2 n.2))]:=by
    rw[Wd];unfold U3 Uc;simp only[Zr,ZE,neg_one_mul]
   rw[eN]at k6;obtain⟨I,a8,T,d4⟩:=SV.fr;have d8:∀M∈L,QL I NG M/\Pv M/\(∀u∈M,XE (Xg (X6 m (XD s.2 n.2)) u.2))/\M.length<1000/\M.length*(x*12*NG)<=C:=fun M J=>by
    refine⟨d4 M J,(SV.pl M J).dc,fun u H=> ?_,by have:=SV.ln M J;omega,?_⟩
    ·obtain⟨h,e⟩:=ZC.1 J;have hh:h<l.length:=by rw[<-SV.len];exact(Zb.1 e).1
     obtain⟨r0,i5,r8⟩:=X.ld _ (Yz hh);have u8:=(SV.pl M J).q8 u H;obtain⟨⟨-,w1⟩,-⟩:=SV.mem h M _ r0 e (Zf hh) i5 u H;have q8:=mq.1;have w2:WT w (Xg (X6 m (XD s.2 n.2)) (XD s.2 n.2))=WT w (X6 m (XD s.2 n.2))+WT w (XD s.2 n.2):=Vn w (q8.trans l8.symm);rw[XP,Un (l8.trans m8.symm) b8]at w2;have w3:WT w (Xg u.2 r0.2)=WT w u.2+WT w r0.2:=Vn w (u8.trans r8.symm);have w4:WT w (Xg (X6 m (XD s.2 n.2)) u.2)=WT w (X6 m (XD s.2 n.2))+WT w u.2:=Vn w (q8.trans u8.symm);have:=a9.2;exact OV.ok (w:=w) (W:=64) ⟨VU q8 u8,by omega⟩ w8 wp (by omega)
    ·have h1:=Zp (x*12*NG) (SV.ln M J);have h2:x*12*NG=12*(x*NG):=by rw[YX,ZH]
     omega
   have mb:Ar D I (x*12) NG C k:=⟨X.k7,hD,a8,by
    have:=ZU d0 T;omega,by omega,by omega,X.C⟩
   obtain⟨Y,k7,k8⟩:=iS X.hB mb (F:=.Xp F') (t:=(-(t.1*s.1),X6 m (XD s.2 n.2))) ⟨_,.Xp,k6⟩ a5.neg (fun e=>cn (by rw[<-Rat.neg_neg (t.1*s.1)];rw[show -(t.1*s.1)=0 from e];rfl)) q6 d8;have l0:=q6.length;have h0:=SV.len;have k9:=mT N (F:=.Xp F') (V:=.Xp (Xf xs)) .Xp (by omega) k7;have ST:=zF A X.ld b2 b3 g1 g2 a6 g3 g4 a7 s8 b0 sn g5 b8 (fun h U hh P=>by
    obtain⟨m1,e1,e2,e3,e4⟩:=kV A.pl X.ld P;exact aQ.lt e3 e4 m8 e2 (h5 h m1 hh e1)) (fun h U P=>by
    obtain⟨m1,e1,e2,e3,e4⟩:=kV A.pl X.ld P;exact aQ.trans e3 e4 m8 e2 (h6 h m1 (by rw[Qj vs l A.len];have:=(Zb.1 e1).1;rw[Qj vs l A.len]at this;exact this) e1)) ⟨z,z1,by omega⟩ SV ⟨a8,T,d4⟩
   have j9:∀Q∈L.map (XS (-(t.1*s.1)) (X6 m (XD s.2 n.2))),Sz Q/\Q.length<400000:=fun Q hQ=>by
    obtain⟨M,J,rfl⟩:=ZQ.1 hQ;obtain⟨a1,-,-,a4,-⟩:=d8 M J;refine⟨fun u H=> ?_,by unfold XS;rw[ZP];omega⟩;obtain⟨v,hv,-,ev⟩:=O7 H;rw[ev];have h2:x*12*NG=12*(x*NG):=by rw[YX,ZH]
    have:=ZU d0 T;exact(a5.neg.mul (a1 v hv)).sq X.k7 (Yn hD a8) (C:=C) (by omega) (by omega) X.C
   obtain⟨os,w1,w2⟩:=aO N pv k8 (by rw[ZP,h0];exact A.len) (fun Q hQ=>⟨(a0 Q hQ).1,by have:=(a0 Q hQ).2;omega⟩) j9;have h9:V=.Xp (Xf lv):=kE sv (by have:=(Zb.1 hr).1;omega);have w3:=fv N (O:=.Xp (Xf [.Xp (Xf Y)])) (vs:=lv) (os:=[.Xp (Xf Y)]) (out:=os) .Xp (by have:=A.len;omega) (by simp) (w1.mono fun E K e1=>.cons .Xp e1 (.nil _));rw[<-h9]at w3;have i3:S<cs.length:=by
    rw[i1];exact(Zb.1 q5).1
   have l3:=Zf i3;have m0:=hc.pq.length;obtain⟨c0,i0,j3⟩:=hc.pq.get (f:=ys[S]'(by omega)) (Zf (by omega));obtain⟨y0,m5,e7⟩:=hc.fr (ys[S]'(by omega)) (Yz _);obtain⟨d,j0,j1⟩:=bJ N j3 pF (fun u H=>(y0 u H).sq X.k7 hD (by omega) d7 X.C) e6 (by omega) (by simp);refine⟨a,m,S,d,os,_,I,_,ys.set S (WB (ys[S]'(by omega)) [(t.1*s.1,X6 m (XD s.2 n.2))]),?_,rfl,by omega,a8,T,w2,ST.1,?_,a9,⟨va,f,s,t,g1,g2,g4,t1,g5⟩,fun h U hh P=> ?_,fun h U P=> ?_,ST.2⟩
   ·refine(ht.Xj.and (c1.Xj.and (c3.Xj.and (c5.Xj.and (k1.Xj.and (k2.Xj.and (k3.Xj.and (d6.Xj.and (k5.Xj.and (k9.Xj.and (j0.Xj.and w3.Xj))))))))))).mono fun E K ⟨f1,f2,f3,f4,f5,f6,f7,f8,f9,e9,g6,g7⟩=>⟨_,_,_,_,_,_,_,_,_,_,_,_,_,_,_,_,_,_,_,_,_,_,_,_,_,_,_,_,_,_,_,true,m8,s8,b0,t8,l8,mq.1,P,hq,hr,?_,i0,f1,f2,f3,f4,f5,f6,f7,f8,f9,e9,g6,g7⟩
    rw[ZA,q5];rfl
   ·refine⟨hc.pq.set ⟨d,.Xp,j1⟩ S,fun Q hQ=> ?_⟩;rcases List.mem_or_eq_of_mem_set hQ with h|rfl
    ·obtain⟨a1,a2,a3⟩:=hc.fr Q h;refine⟨fun u H=> ?_,by omega,a3⟩;have i9:x*I<=x*NG:=Z9 _ T;exact((a1 u H).scale (E:=I)).mono (by omega)
    ·have e5:Q8 [(t.1*s.1,X6 m (XD s.2 n.2))]:=fun u H=>by rw[Ym.1 H];exact mq.1
     have hl:=RL _ (ys[S]'(by omega)) [(t.1*s.1,X6 m (XD s.2 n.2))] (Zh _);rw[ZR]at hl;refine⟨?_,by omega,dQ e7 e5⟩;have b1:QL (D*I) (x*I) (ys[S]'(by omega)):=fun u H=>(y0 u H).scale
     have b2:QL (D*I) (x*12*I) [(t.1*s.1,X6 m (XD s.2 n.2))]:=fun u H=>by rw[Ym.1 H];exact a5.scale
     refine(QL.WB e7 e5 b1 b2).mono ?_;have i9:x*I<=x*NG:=Z9 _ T;have h2:x*12*I=12*(x*I):=by rw[YX,ZH]
     omega
   ·obtain⟨m1,e1,e2,e3,e4⟩:=kV A.pl X.ld P;exact aQ.lt e3 e4 m8 e2 (h5 h m1 hh e1)
   ·obtain⟨m1,e1,e2,e3,e4⟩:=kV A.pl X.ld P;exact aQ.trans e3 e4 m8 e2 (h6 h m1 (by rw[Qj vs l A.len];have:=(Zb.1 e1).1;rw[Qj vs l A.len]at this;exact this) e1)
end Go.Proofs.YtidginchkjhobaaGreat
namespace Go.Proofs.YtidginchkjhobaaGreat
open Go.Ev Go.Num
variable {o:List (List Int)}{w:List Nat}
theorem CI.mono {D x R d:Nat}{e:List PL}{f:List (List Qm)}(h:CI D x R e f)(k:d<=R):CI D x d e f:=⟨h.pq,fun Q g=>by
 obtain⟨a,b,c⟩:=h.fr Q g;exact⟨a,by omega,c⟩⟩
theorem fO {x a b C:Nat}(h:x*mX^a<=C)(k:b<=a):x*mX^b<=C:=Zy (Z9 _ (Nat.pow_le_pow_right yS k)) h
theorem ud {B:Xs}{lo G:PL}{gs:List PL}{g:List (List Qm)}{t:List (List PL)}{k C:Nat}(X:FE B o w lo G gs g t k C):∀(l:List (List Nat)),AG o w 64 l->
  ∀{D x:Nat} {V:PL} {z:List PL} {v:List (List Qm)} {s:List PL} {S:List (List Qm)},0<D->D<=x->x*mX^(l.length*g.length+1)<=C->Sl V (Xf z)->Ut z v->VI o w g D x v->CI D x (l.length*g.length+1) s S->s.length=t.length->(∀h m,Pr o g v h m->m∈l)->
  ∃r y,X1 B fun E _=>iJ E G lo gs (oi t) r V z s y
 |[],_,D,x,V,z,v,s,S,A,j,U,H,L,I,F,p,N=>by
  rcases jK X (R:=0) A j (by
   have:=fO U (b:=1) (by omega)
   rwa[Nat.pow_one]at this) H L I (F.mono (by omega)) p with⟨i,m,m8,h⟩|⟨a,m,_,_,_,_,_,_,_,_,_,_,_,_,_,_,_,_,h,_⟩
  ·exact⟨0,s,h.mono fun E K e=>.done m8 e⟩
  ·cases N a m h
 |δ::l,hl,D,x,V,z,v,s,S,A,j,U,H,L,I,F,p,N=>by
  have ih:=@ud B lo G gs g t k C X l hl.tail;have Y:∀n∈l,WE o n δ:=(Zv.1 hl.dc).1;have key:∀(d i0:Nat),g.length<=i0+d->∀{D x:Nat} {V:PL} {z:List PL} {v:List (List Qm)} {s:List PL} {S:List (List Qm)},0<D->D<=x->x*mX^(l.length*g.length+d+1)<=C->Sl V (Xf z)->Ut z v->VI o w g D x v->CI D x (l.length*g.length+d+1) s S->s.length=t.length->(∀h m,Pr o g v h m->m∈δ::l)->(∀h m,h<i0->Pr o g v h m->m∈l)->
    ∃r y,X1 B fun E _=>iJ E G lo gs (oi t) r V z s y:=by
   intro d;induction d with
   |zero=>
    intro i0 hi D x V z v s S A j U H L I F p N O;exact ih A j U H L I F p fun h m T=>O h m (by
     obtain⟨Q,f,r,u,h1,h2,-⟩:=T;have:=(Zb.1 h2).1;omega) T
   |succ d a3=>
    intro i0 hi D x V z v s S A j hy H L I F p N O;rcases jK X (R:=l.length*g.length+d+1) A j (by
     have:=fO hy (b:=1) (by omega)
     rwa[Nat.pow_one]at this) H L I F p with⟨i,m,m8,h⟩|⟨a,m,kk,dd,a4,a5,E',a6,a9,h1,rfl,h2,h3,h4,h5,h6,h7,h8,h9,a7,a0,W⟩
    ·exact⟨0,s,h.mono fun E K e=>.done m8 e⟩
    ·by_cases T:m=δ
     ·subst T;have a8:i0<=a:=Nat.le_of_not_lt fun h=>WE.zh (Y m (O a m h h9))
      have inl:∀h q,Pr o g a5 h q->WE o q m->q∈l:=fun h q c J=>(Zj.1 (hl.cl m (Ze ..) q (h6.wt h q c) J)).resolve_left J.ne
      obtain⟨r,y,h⟩:=a3 (a+1) (by omega) (Yn A h3) (by
       have hq:=ZU j h4;have :x*NG<=x*mX:=Z9 _ (by unfold mX;exact YQ _ (by decide));omega) (by
       have P:x*mX^((l.length*g.length+d+1)+1)<=C:=fO hy (by omega);generalize mX=M at P⊢;rw[Nat.pow_succ']at P;rw[Yi];exact P) (V:=.Xp (Xf a4)) .Xp h5 h6 h7 (by rw[ZT];exact p) (fun h q c=>by
       rcases W h q c with e|⟨e,-⟩
       ·exact Zc _ (inl h q c e)
       ·rw[e];exact Ze ..) (fun h q hh c=>by
       rcases W h q c with e|⟨e,e2⟩
       ·exact inl h q c e
       ·omega)
      exact⟨r+1,y,(h1.and h).mono fun E K ⟨e1,e2⟩=>.step H e1 e2⟩
     ·have a2:m∈l:=(Zj.1 (N a m h9)).resolve_left T;exact ih A j (fO hy (by omega)) H L I (F.mono (by omega)) p fun h q c=>by
       rcases Zj.1 (N h q c)with e|e
       ·exfalso;have a1:=Y m a2;rcases a0 h q c with k|k
        ·exact T (k.symm.trans e)
        ·rw[e]at k;exact(k.asymm (hl.AA δ (Ze ..)).1 h8.1) a1
       ·exact e
  have Z:(δ::l).length*g.length=l.length*g.length+g.length:=by rw[Zi,ZG,ZZ]
  rw[Z]at U F;exact key g.length 0 (by omega) A j U H L I F p N fun h m hh=>by omega
theorem BpowA{Z a n m:Nat}(h:m=1+9*n)(i:a<=Z):a*(Z^9)^n<=Z^m:=by
 subst h;rw[<-Nat.pow_mul,Nat.pow_add,Nat.pow_one];exact Nat.mul_le_mul_right _ i
theorem BpowB{Z a b x m n:Nat}(h:n=m+x)(i:a<=Z^x)(j:b<=Z^m):a*b<=Z^n:=by
 subst h;rw[Nat.add_comm,Nat.pow_add];exact Nat.mul_le_mul i j
theorem Bo {Z M N a b c d e:Nat}(k:Z=4294967296)(hM:M=2400*(3*(Z^9*(144*(Z^9)^200))))(ha:a=1801)(hb:b=1810)(hc:c=1811)(hd:d=1812)(he:e=327973)(hN:N=400000):9*M^181<Z^N:=by
 have i:144<=Z:=by omega
 have h1:144*(Z^9)^200<=Z^a:=BpowA (by omega) i
 have h2:Z^9*(144*(Z^9)^200)<=Z^b:=BpowB (x:=9) (by omega) (Nat.le_refl _) h1
 have h3:3*(Z^9*(144*(Z^9)^200))<=Z^c:=BpowB (x:=1) (by omega) (by rw[Nat.pow_one];omega) h2
 have h4:2400*(3*(Z^9*(144*(Z^9)^200)))<=Z^d:=BpowB (x:=1) (by omega) (by rw[Nat.pow_one];omega) h3
 rw[<-hM]at h4
 have h5:=Nat.pow_le_pow_left h4 181
 rw[<-Nat.pow_mul]at h5
 have h6:9*M^181<=Z^e:=BpowB (x:=1) (by omega) (by rw[Nat.pow_one];omega) h5
 exact Nat.lt_of_le_of_lt h6 (Nat.pow_lt_pow_right (by omega) (by omega))
theorem yT(N:Nat)(h:N=400000):9*mX^181<4294967296^N:=Bo rfl rfl rfl rfl rfl rfl rfl h
theorem Bc (n R:Nat)(b:R<=10000):CI 1 9 R (List.replicate n .XC) (List.replicate n []):=⟨fe n,fun Q a=>by
 rw[(List.mem_replicate.1 a).2];exact⟨(fun _ h=>by cases h),by simpa using b,fun _ h=>by cases h⟩⟩
theorem oV {B:Xs}(O:iH B){a:List (List Qm)}(W:On o w a){H G V:PL}(U:SG H o)(b:∀f∈a,Sa 2 9 3 f)(R:∀f∈a,f≠[])(I:a.length<=3)(g:∀V,V<=64->(allM w V).length<=60){j:List PL}(T:Sl G (Xf j))(J:Ut j a){c:List (List PL)}(t:sh o w a c)
  {q:List PL} {A:List (List Qm)} (X:Sl V (Xf q)) (S:Ut q A) (p:A.length=a.length) (k:∀v∈A,Sa 1 6 2 v):∃r i,X1 B fun E _=>iJ E G H j (oi c) r V q (List.replicate c.length .XC) i:=by
 have e:(SK o (allM w 64)).length<=60:=Zy (Qe _) (g 64 (Zh _));have d:(SK o (allM w 64)).length*a.length+1<=181:=by
  have:=ZU e I;omega
 refine ud ⟨O,W,U,b,R,I,g,T,J,t,by decide,yT _ rfl⟩ (SK o (allM w 64)) (yU W.w8 W.wp 64) (D:=1) (x:=9) (by omega) (by omega) (fO (Zh _) d) X S ⟨p,fun v n=>(k v n).pl,fun v n u P=> ?_,fun h m F=> ?_⟩ (Bc _ _ (by omega)) (by simp) fun h m F=> ?_
 ·obtain⟨z,Y,z2⟩:=(k v n).cf u P;exact⟨z,by rw[Y];exact Rat.mul_one _,by omega⟩
 all_goals
  obtain⟨Q,f,r,u,K,L,M,N,rfl⟩:=F;have y:=(k Q (Zn K)).my u N;have C:=Zn L;have s:=(b f C).my r (XW (b f C).pl M).1;have w1:=W.le 1 _ y;have Z:=W.le 2 _ s;have w3:=Vn w (y.l8.trans s.l8.symm);have l:OV w 64 (Xg u.2 r.2):=⟨VU y.l8 s.l8,by omega⟩
 ·exact l
 ·exact WZ.2 (SP (W.w8.trans l.1.symm) W.wp l.2)
end Go.Proofs.YtidginchkjhobaaGreat
