/- Division: divisors. -/
import Derived.Test.YtefpgecinlekpaaGreatQSubB
import Derived.Test.YtefpgecinlekpaaGreatQLead
set_option maxHeartbeats 16000000
set_option maxRecDepth 100000
namespace Go.Proofs.YtefpgecinlekpaaGreat
open Go.Ev Go.Num
abbrev Ch (v:Nat)(ds:List (List PL)):Xz:=⟨false,v,15,pc ds,false,99⟩
def Sb (x y z u:PL)(m:List Nat)(p r:PL)(i:Nat):List PL:=x::y::z::u::(mo m++[p,r,.int .i64 (.ofNat i)])
theorem oQ {E:Xb}{K k i:Nat}{g L p:PL}{a:List PL}(d:Sl L (Xu a))(m:a.length<1000000)(f:a[i]? =some p)(q:Sl p []){e:DL}(H:List Xz):
  Xc E K 0 [1,5,9,10,11] x63_1 (k+1) ⟨[(1,.one (.p g)),(5,.one e),(9,.one (.p L)),(10,.one (.p (.int .i64 (.ofNat a.length)))),(11,.one (.p (.int .i64 (.ofNat i))))],H⟩=
   Xc E K 0 [1,5,9,10,11] x63_1 k ⟨[(1,.one (.p g)),(5,.one e),(9,.one (.p L)),(10,.one (.p (.int .i64 (.ofNat a.length)))),(11,.one (.p (.int .i64 (.ofNat (i+1)))))],H⟩:=by
 have c:i<a.length:=(Zd.mp f).1;have n:=fun(l:HF) (o:IntKind)=>d.idx (h:=l) (k:=o) (sz:=1) (XI f) rfl
 have j:Xe .i64 (.ofNat (i+1))=.ofNat (i+1):=wrap_i64 (by omega);have b:=q.len;rw[Xc];simp only[Xp,Xq,reduceIte,Nat.reduceEqDiff,x63_1,c,n,j,b,Zv]
theorem wk {E:Xb}{K k i:Nat}(s:E.mode=md){v L p x y z u:PL}{m:List Nat}{b:List PL}{es e:List (List PL)}(w:Sl L (Xu b))(G:b.length<1000000)(A:b[i]? =some p)(M:Sl p es)(o:0<es.length)(B:m.length=8)(j:∀d∈e,d.length=12)
  (a:E.pure 83 [.one p,.one v]=some (.one (.Xv ((x::y::z::u::mo m)::e)))):
  ∃J D,Xc E K 0 [1,5,9,10,11] x63_1 (k+1) ⟨[(1,.one (.p v)),(5,.one (.p .XJ)),(9,.one (.p L)),(10,.one (.p (.int .i64 (.ofNat b.length)))),(11,.one (.p (.int .i64 (.ofNat i))))],[]⟩=
   Xc E K 0 [1,5,9,10,11] x63_1 k ⟨[(1,.one (.p v)),(5,.one (.own 1 0 0 1)),(9,.one (.p L)),(10,.one (.p (.int .i64 (.ofNat b.length)))),(11,.one (.p (.int .i64 (.ofNat (i+1)))))],J::Ch 0 [Sb x y z u m p (.Xv e) i]::D⟩:=by
 have r:i<b.length:=(Zd.mp A).1;have H:=fun(q:HF) (t:IntKind)=>w.idx (h:=q) (k:=t) (sz:=1) (XI A) rfl
 have F:Xe .i64 (.ofNat (i+1))=.ofNat (i+1):=wrap_i64 (by omega);have f:=M.len;have I:Sl (.Xv ((x::y::z::u::mo m)::e)) ((x::y::z::u::mo m)::e):=.Xv;have id:=fun(q:HF) (t:IntKind)=>I.idx (h:=q) (k:=t) (i:=0) (sz:=12) rfl (by simp[Xy,B])
 have C:=VW (c:=x::y::z::u::mo m) (es:=e) j;have W:(Xm m).take 8=Xm m:=Zb (by rw[Xa];omega);have N:(Xm m).drop 8=[]:=Zj (by rw[Xa];omega);have X:=Xo m;obtain⟨O,P,Q,R,S,T,U,V,rfl⟩:=eight B;have l:∀(n:Nat) (c:List DL) (g:List Nat),WK 99 15 184 n [c] g=some ⟨.one (.own n 0 0 1),[⟨false,0,15,[c],false,99⟩],[],g⟩:=fun _ _ _=>rfl
 simp only[mo,Zw,ZT]at C id a;apply Exists.intro;apply Exists.intro;rw[Xc];simp(decide:=true)only[Xp,Xq,WR,reduceIte,Nat.reduceAdd,x63_1,r,H,F,f,o,s,XW,a,id,C,l,mo,Sb];rfl
theorem zP {E:Xb}{K k i v:Nat}(r:E.mode=md){t L p x y z u:PL}{m:List Nat}{b:List PL}{es e:List (List PL)}(w:Sl L (Xu b))(O:b.length<1000000)(A:b[i]? =some p)(R:Sl p es)(l:0<es.length)(B:m.length=8)(j:∀d∈e,d.length=12)
  (a:E.pure 83 [.one p,.one t]=some (.one (.Xv ((x::y::z::u::mo m)::e)))) {ds:List (List PL)} (N:ds.length<1000000) (J:Xz) (G:List Xz):
  ∃D,Xc E K 0 [1,5,9,10,11] x63_1 (k+1) ⟨[(1,.one (.p t)),(5,.one (.own 1 v 0 ds.length)),(9,.one (.p L)),(10,.one (.p (.int .i64 (.ofNat b.length)))),(11,.one (.p (.int .i64 (.ofNat i))))],J::Ch v ds::G⟩=
   Xc E K 0 [1,5,9,10,11] x63_1 k ⟨[(1,.one (.p t)),(5,.one (.own 1 (v+1) 0 (ds.length+1))),(9,.one (.p L)),(10,.one (.p (.int .i64 (.ofNat b.length)))),(11,.one (.p (.int .i64 (.ofNat (i+1)))))],J::Ch (v+1) (ds++[Sb x y z u m p (.Xv e) i])::D⟩:=by
 have q:i<b.length:=(Zd.mp A).1;have P:=fun(o:HF) (s:IntKind)=>w.idx (h:=o) (k:=s) (sz:=1) (XI A) rfl
 have F:Xe .i64 (.ofNat (i+1))=.ofNat (i+1):=wrap_i64 (by omega);have f:=R.len;have Q:Sl (.Xv ((x::y::z::u::mo m)::e)) ((x::y::z::u::mo m)::e):=.Xv;have id:=fun(o:HF) (s:IntKind)=>Q.idx (h:=o) (k:=s) (i:=0) (sz:=12) rfl (by simp[Xy,B])
 have C:=VW (c:=x::y::z::u::mo m) (es:=e) j;have tm:(Xm m).take 8=Xm m:=Zb (by rw[Xa];omega);have S:(Xm m).drop 8=[]:=Zj (by rw[Xa];omega);have w0:=Xo m;obtain⟨T,U,V,W,X,Y,Z,m8,rfl⟩:=eight B;have M:∀(n:Nat) (c:List DL) (g:List Nat),WK 99 15 184 n [c] g=some ⟨.one (.own n 0 0 1),[⟨false,0,15,[c],false,99⟩],[],g⟩:=fun _ _ _=>rfl
 simp only[mo,Zw,ZT]at C id a;have H:(ds.length+1)*184<=lim:=by unfold lim;omega
 have I:ds.length+1<=9223372036854775807:=by omega
 apply Exists.intro;rw[Xc];simp(decide:=true)only[Xp,Xq,VN,WR,reduceIte,Nat.reduceEqDiff,Nat.reduceLeDiff,Nat.reduceAdd,x63_1,q,P,F,f,l,r,XW,a,id,C,H,I,Zy,List.map_append,Ch,mo,Sb,pc];rfl
end Go.Proofs.YtefpgecinlekpaaGreat
namespace Go.Num
def Wz (o:List (List Int)):List (List Qm)->Nat->List (Qm×List Qm×List Qm×Nat)
 |[],_=>[]
 |f::fs,i=>match Va o f with
  |[]=>Wz o fs (i+1)
  |t::us=>(t,f,us,i)::Wz o fs (i+1)
end Go.Num
namespace Go.Proofs.YtefpgecinlekpaaGreat
open Go.Ev Go.Num
abbrev gZ (ds:List (List PL))(l:List (Qm×List Qm×List Qm×Nat)):Prop:=XF (fun d e=>dJ d e.1 e.2.1 e.2.2.1 e.2.2.2) ds l
inductive pO (E:Xb)(lo:PL):List PL->Nat->List (List PL)->Prop
 |nil {i:Nat}:pO E lo [] i []
 |skip {p:PL} {ps:List PL} {i:Nat} {ds:List (List PL)} (sp:Sl p []) (h:pO E lo ps (i+1) ds):pO E lo (p::ps) i ds
 |cons {p x y z u:PL} {m:List Nat} {ps:List PL} {i:Nat} {es tl ds:List (List PL)} (sp:Sl p es) (hes:0<es.length) (hm:m.length=8) (h12:∀d∈tl,d.length=12)
   (hdec:E.pure 83 [.one p,.one lo]=some (.one (.Xv ((x::y::z::u::mo m)::tl)))) (h:pO E lo ps (i+1) ds):pO E lo (p::ps) i (Sb x y z u m p (.Xv tl) i::ds)
theorem Sh (o:List (List Int))(a:List Qm):(Va o a).length=a.length:=(Vy o a).length_eq
theorem tS {B:Xr}(F:StdO B){J:PL}{o:List (List Int)}(M:S6 J o)(H:VE o)(k:o.length<1000000):∀{L:List PL} {s:List (List Qm)},T6 L s->(∀f∈s,Tk f/\f.length<60000)->∀i,∃m,(X0 B fun E _=>pO E J L i m)/\gZ m (Wz o s i)
 |_,_,.nil,_,i=>⟨[],X0.of fun _ _=>.nil,.nil⟩
 |_,_,.cons (x:=p) (y:=f) (ys:=s) v h,u,i=>by
  obtain⟨m,C,D⟩:=tS F M H k h (fun g U=>u g (Zc _ U)) (i+1);obtain⟨P,Q⟩:=u f (Ze ..);have w:=v;obtain⟨O,N,z⟩:=w;have S:=z.length;have j:=Sh o f;unfold Wz;obtain⟨r,V,W⟩:=TW F M H k v P Q;obtain⟨A,Y,I⟩:=W;generalize Z:Va o f=q at I j;cases I with
  |nil=>
   have :O=[]:=Yk (by simp at j;omega);subst this;exact⟨m,C.mono fun E K e=>.skip N e,D⟩
  |@cons c t A us R l=>
   obtain rfl:=Sl.Vp Y;have T:=X2.aF l;obtain⟨n,a,e,b,rfl,X,G⟩:=R;refine⟨_,(C.and V.Xi).mono fun E K ⟨e1,e2⟩=>.cons N (by simp at j;omega) G.1 (fun d u=>Qi.len (T d u)) e2 e1,.cons ?_ D⟩;exact⟨n,a,e,b,p,.Xv A,rfl,X,G,v,A,.Xv,l⟩
theorem Eb {E:Xb}{K:Nat}(D:E.mode=md){H L:PL}{a:List PL}(q:Sl L (Xu a))(P:a.length<400000):∀{o:List PL} {i:Nat} {ds:List (List PL)},pO E H o i ds->∀(k v:Nat) (dd:List (List PL)) (J:Xz) (G:List Xz),a.drop i=o->i+o.length=a.length->dd.length<=i->o.length<k->
  ∃b f e,Xc E K 0 [1,5,9,10,11] x63_1 k ⟨[(1,.one (.p H)),(5,.one (.own 1 v 0 dd.length)),(9,.one (.p L)),(10,.one (.p (.int .i64 (.ofNat a.length)))),(11,.one (.p (.int .i64 (.ofNat i))))],J::Ch v dd::G⟩=
   some (.exit 0,⟨b,J::Ch e (dd++ds)::f⟩)/\Xh b 5=some (.one (.own 1 e 0 (dd++ds).length)):=by
 intro o i ds h;induction h with
 |@nil i=>
  intro k v dd J G r l g s;obtain⟨k,rfl⟩:∃n,k=n+1:=⟨k-1,by omega⟩;have C:¬i<a.length:=by simp at l;omega
  have :∃b,Xc E K 0 [1,5,9,10,11] x63_1 (k+1) ⟨[(1,.one (.p H)),(5,.one (.own 1 v 0 dd.length)),(9,.one (.p L)),(10,.one (.p (.int .i64 (.ofNat a.length)))),(11,.one (.p (.int .i64 (.ofNat i))))],J::Ch v dd::G⟩=some (.exit 0,⟨b,J::Ch v dd::G⟩)/\Xh b 5=some (.one (.own 1 v 0 dd.length)):=by
   apply VM
   ·rw[Xc];simp only[Xp,Xq,reduceIte,Nat.reduceEqDiff,x63_1,C];rfl
   ·simp only[Xp,reduceIte,Nat.reduceEqDiff]
  obtain⟨b,c,d⟩:=this;exact⟨b,G,v,by rw[ZN];exact c,by rw[ZN];exact d⟩
 |skip I h F=>
  intro k v dd J G r l g s;obtain⟨k,rfl⟩:∃n,k=n+1:=⟨k-1,by omega⟩;simp only[Zi]at l s;obtain⟨w,t⟩:=Xf r;obtain⟨b,f,e,c,d⟩:=F k v dd J G t (by omega) (by omega) (by omega);exact⟨b,f,e,(oQ (K:=K) q (by omega) w I _).trans c,d⟩
 |@cons p x y z u m S i R M ds I B Q A j h F=>
  intro k v dd J G r l g s;obtain⟨k,rfl⟩:∃n,k=n+1:=⟨k-1,by omega⟩;simp only[Zi]at l s;obtain⟨w,t⟩:=Xf r;obtain⟨N,O⟩:=zP (K:=K) (k:=k) (v:=v) D q (by omega) w I B Q A j (ds:=dd) (by omega) J G;obtain⟨b,f,e,c,d⟩:=F k (v+1) (dd++[Sb x y z u m p (.Xv M) i]) J N t (by omega) (by simp;omega) (by omega);rw[show(dd++[Sb x y z u m p (.Xv M) i]).length=dd.length+1 by simp]at c;rw[Zq,Z1]at c d;exact⟨b,f,e,O.trans c,d⟩
theorem tR {E:Xb}{K:Nat}(n:E.mode=md){G L:PL}{a:List PL}(d:Sl L (Xu a))(D:a.length<400000):∀{q:List PL} {i:Nat} {c:List (List PL)},pO E G q i c->∀(k:Nat),a.drop i=q->i+q.length=a.length->q.length<k->
  ∃b g,Xc E K 0 [1,5,9,10,11] x63_1 k ⟨[(1,.one (.p G)),(5,.one (.p .XJ)),(9,.one (.p L)),(10,.one (.p (.int .i64 (.ofNat a.length)))),(11,.one (.p (.int .i64 (.ofNat i))))],[]⟩=some (.exit 0,⟨b,g⟩)/\
   ((c=[]/\Xh b 5=some (.one (.p .XJ))/\g=[])\/(c≠[]/\∃t J v,Xh b 5=some (.one (.own 1 t 0 c.length))/\g=J::Ch t c::v)):=by
 intro q i c h;induction h with
 |@nil i=>
  intro k r l s;obtain⟨k,rfl⟩:∃o,k=o+1:=⟨k-1,by omega⟩;have F:¬i<a.length:=by simp at l;omega
  have :∃b,Xc E K 0 [1,5,9,10,11] x63_1 (k+1) ⟨[(1,.one (.p G)),(5,.one (.p .XJ)),(9,.one (.p L)),(10,.one (.p (.int .i64 (.ofNat a.length)))),(11,.one (.p (.int .i64 (.ofNat i))))],[]⟩=some (.exit 0,⟨b,[]⟩)/\Xh b 5=some (.one (.p .XJ)):=by
   apply VM
   ·rw[Xc];simp only[Xp,Xq,reduceIte,Nat.reduceEqDiff,x63_1,F];rfl
   ·simp only[Xp,reduceIte,Nat.reduceEqDiff]
  obtain⟨b,e,f⟩:=this;exact⟨b,[],e,.inl ⟨rfl,f,rfl⟩⟩
 |skip H h I=>
  intro k r l s;obtain⟨k,rfl⟩:∃o,k=o+1:=⟨k-1,by omega⟩;simp only[Zi]at l s;obtain⟨A,w⟩:=Xf r;obtain⟨b,g,e,f⟩:=I k w (by omega) (by omega);exact⟨b,g,(oQ (K:=K) d (by omega) A H _).trans e,f⟩
 |@cons p x y z u m R i Q P c H C O B j h I=>
  intro k r l s;obtain⟨k,rfl⟩:∃o,k=o+1:=⟨k-1,by omega⟩;simp only[Zi]at l s;obtain⟨A,w⟩:=Xf r;obtain⟨J,M,N⟩:=wk (K:=K) (k:=k) n d (by omega) A H C O B j;obtain⟨b,v,t,e,f⟩:=Eb (K:=K) n d D h k 0 [Sb x y z u m p (.Xv P) i] J M w (by omega) (by simp) (by omega);rw[Z1]at e f;exact⟨b,_,N.trans e,.inr ⟨by simp,t,J,v,f,rfl⟩⟩
theorem Rn {B:Xr}(e:StdO B){n L:PL}{o:List (List Int)}(y:S6 n o)(w:VE o)(g:o.length<1000000){ls:List PL}{fs:List (List Qm)}(k:Sl L (Xu ls))(h:T6 ls fs)(t:∀f∈fs,Tk f/\f.length<60000)(A:fs.length<400000):
  ∃r b,Xs B 63 [.one L,.one n] (.one r)/\Sl r b/\gZ b (Wz o fs 0):=by
 have v:=h.length;obtain⟨b,l,m⟩:=tS e y w g h t 0;have a:=k.len;rw[XH]at a;by_cases h0:b=[]
 ·subst h0;refine⟨.XJ,[],Xs.of (e.X6 _ _ rfl) ((l.and (e.toStd.Xi.and (X0.ge (ls.length+1)))).mono fun E K ⟨e1,c,s⟩=> ?_),.nil,m⟩;obtain⟨q,p,j,d⟩:=tR (K:=K) c k (by omega) e1 K rfl (by omega) (by omega);rcases d with⟨-,d,rfl⟩|⟨i,-⟩
  ·simp only[Xp,Xq,reduceIte,Nat.reduceEqDiff,Nat.reduceLeDiff,Nat.reduceAdd,x63,a,j,d]
  ·exact absurd rfl i
 ·refine⟨.Xv b,b,Xs.of (e.X6 _ _ rfl) ((l.and (e.toStd.Xi.and (X0.ge (ls.length+1)))).mono fun E K ⟨e1,c,s⟩=> ?_),.Xv,m⟩;obtain⟨q,p,j,d⟩:=tR (K:=K) c k (by omega) e1 K rfl (by omega) (by omega);rcases d with⟨i,-,-⟩|⟨-,C,J,z,d,rfl⟩
  ·exact absurd i h0
  ·have x:=Ui b (Zh _);have u:=fun h=>Ux 5 h b
   simp only[Xp,Xq,reduceIte,Nat.reduceEqDiff,Nat.reduceLeDiff,Nat.reduceAdd,x63,a,j,d,x,u,Wi,Zh]
theorem dJ.len {d:List PL}{t:Qm}{f g:List Qm}{k:Nat}(h:dJ d t f g k):d.length=15:=by
 obtain⟨n,a,e,b,p,r,rfl,q,c,i,j⟩:=h;simp[Xy,c.1]
theorem qA {B:Xr}(j:StdO B){F l m:PL}{o:List (List Int)}(so:S6 F o)(X:VE o)(z:o.length<1000000)(hv:Xs B 57 [.one F] (.one (.bool true))){a b N O:List Qm}{t s:Qm}(A:PQ l a)(C:PQ m b)(P:Tk a)(Q:Tk b)(l1:a.length<60000)(l2:b.length<60000)
  (S:Va o a=t::N) (T:Va o b=s::O) (Z:Sq t.1) (t0:t.1≠0) (Y:Sq s.1) (s0:s.1≠0) (zt:Sz a) (zs:Sz b)
  (ot:∀u∈a,XL (Xg (WW (Wb t.2 s.2) t.2) u.2)) (os:∀u∈b,XL (Xg (WW (Wb t.2 s.2) s.2) u.2)) (rt:Sz (VF (Wb t.2 s.2) t a)) (rs:Sz (VF (Wb t.2 s.2) s b)):
  ∃c,Xs B 24 [.one l,.one m,.one F] (.XY [.one (.Xv c),.one (.int .i64 (.ofNat 0))])/\X2 c (bo t a s b):=by
 obtain⟨r,R,U,n,q⟩:=Rn j so X z (L:=.Xv (Xu [l,m])) (ls:=[l,m]) (fs:=[a,b]) .Xv (.cons A (.cons C .nil)) (fun f I=>by
  simp only[Zk,ZX,or_false]at I;rcases I with rfl|rfl
  ·exact⟨P,l1⟩
  ·exact⟨Q,l2⟩) (by simp)
 simp only[Wz,S,T]at q;obtain⟨d,e,rfl⟩:∃d e,R=[d,e]:=by
  cases q with |cons _ h=>cases h with |cons _ h=>cases h;exact⟨_,_,rfl⟩
 obtain rfl:=Sl.Vp n;obtain⟨G,H⟩:dJ d t a N 0/\dJ e s b O 1:=by
  cases q with |cons x h=>cases h with |cons y h=>exact⟨x,y⟩
 obtain⟨c,V,W⟩:=P1 j.toStd G H Z t0 Y s0 zt zs ot os rt rs (by omega) (by omega);have J:=G.len;have M:=H.len;have i0:=fun(v:HF) (D:IntKind)=>n.idx (h:=v) (k:=D) (i:=0) (sz:=15) rfl J
 have i1:=fun(v:HF) (D:IntKind)=>n.idx (h:=v) (k:=D) (i:=1) (sz:=15) rfl M
 have g:=n.len;have t1:(d.map DL.p).take 15=d.map DL.p:=Zb (by simp[J]);have t2:(e.map DL.p).take 15=e.map DL.p:=Zb (by simp[M]);obtain⟨a1,a2,a3,a4,x1,x2,x3,x4,x5,x6,x7,x8,a5,a6,rfl,-⟩:=G.cells;obtain⟨b1,b2,b3,b4,y1,y2,y3,y4,y5,y6,y7,y8,b5,b6,rfl,-⟩:=H.cells;refine⟨c,Xs.of (j.X6 _ _ rfl) ((U.Xi.and (V.Xi.and (hv.Xi.and j.toStd.Xi))).mono fun E K ⟨e1,e2,e3,w⟩=> ?_),W⟩;simp only[Xu,Zw,ZT]at e1;simp(decide:=true)only[Xp,Xq,reduceIte,Nat.reduceAdd,x24,w,XW,e1,e2,e3,i0,i1,g]
theorem nB {B:Xr}(g:StdO B){n d e:PL}{o:List (List Int)}(A:S6 n o)(w:VE o)(j:o.length<1000000)(x:Xs B 57 [.one n] (.one (.bool true))){a b:List Qm}(k:PQ d a)(l:PQ e b)(q:Tk a)(s:Tk b)(y:a.length<60000)(z:b.length<60000)(h0:a=[]\/b=[]):
  Xs B 24 [.one d,.one e,.one n] (.XY [.one .XJ,.one (.int .i64 (.ofNat 10))]):=by
 obtain⟨r,t,u,C,v⟩:=Rn g A w j (L:=.Xv (Xu [d,e])) (ls:=[d,e]) (fs:=[a,b]) .Xv (.cons k (.cons l .nil)) (fun f p=>by
  simp only[Zk,ZX,or_false]at p;rcases p with rfl|rfl
  ·exact⟨q,y⟩
  ·exact⟨s,z⟩) (by simp)
 have h:t.length<2:=by
  rw[v.length];rcases h0 with rfl|rfl
  ·simp only[Wz,Va];cases Va o b<;>simp
  ·simp only[Wz,Va];cases Va o a<;>simp
 have c:=C.len;refine Xs.of (g.X6 _ _ rfl) ((u.Xi.and (x.Xi.and g.toStd.Xi)).mono fun E K ⟨e1,e3,i⟩=> ?_);simp only[Xu,Zw,ZT]at e1;cases m:r.scalar<;>simp(decide:=true)only[Xp,Xq,WR,reduceIte,Nat.reduceAdd,x24,i,XW,e1,e3,c,h,m]
end Go.Proofs.YtefpgecinlekpaaGreat
