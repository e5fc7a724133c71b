/- Division: subtract, the rounds over the terms of a divisor (written by gen_qsub3.py). -/
import Derived.Test.YtefpgecinlekpaaGreatQSub
set_option maxHeartbeats 16000000
set_option maxRecDepth 100000
namespace Go.Proofs.YtefpgecinlekpaaGreat
open Go.Ev Go.Num
theorem TG {m n:List Nat}(a:m.length=8)(c:n.length=8):Vl false .i64 8 [.agg (Xm m),.agg (Xm n)]=some ⟨.one (.p (.bool (decide (m=n)))),[],[],[]⟩:=by
 have b:Nat.beq (Xm m).length 8=true:=by rw[Xa,a];rfl
 simp only[Vl,W5.pure,b,cond_true,Vt m n (by rw[a,c])];simp
theorem eb {E:Xb}{K:Nat}(c:E.mode=md){lo by_ fst lp c1 c2 c3 c4 x y z u:PL}{s24 s25 s26:DL}{l v n:Nat}(a:65535<=l){B2 B3:Xz}{G:List Xz}{m b:List Nat}(t:m.length=8)(s:b.length=8)(f:∀e∈Xg b m,e<=65535){k:Nat}(A:9<=k):
  ∃d,Xc E K 0 [1,4,6,10,11,13,24,25,26,30] x105_1 k ⟨[(1,.one (.p lp)),(4,.one (.ptr 0 0 0 0)),(6,.one (.ptr 1 0 0 0)),(10,.one (.ptr 2 0 0 0)),(11,.one (.own 3 v 0 n)),(13,.one (.ptr (G.length+1+1+1+1) 0 0 0)),(24,.one s24),(25,.one s25),(26,.one s26),(30,.one (.p (.int .i64 (.ofNat 0))))],S5 lo by_ l fst::Um c1 c2 c3 c4 m::B2::B3::(G++[Um x y z u b])⟩=
   some (.exit 2,⟨d,S5 lo by_ l fst::Um c1 c2 c3 c4 m::B2::B3::(G++[Um x y z u (Xg b m)])⟩)/\lV d lp v n (G.length+1+1+1+1) s24 s25 s26:=by
 obtain⟨B,C,D,F,H,I,J,L,rfl⟩:=eight s;obtain⟨M,N,O,P,Q,R,S,T,rfl⟩:=eight t;obtain⟨k,rfl⟩:∃w,k=w+9:=⟨k-9,by omega⟩;simp only[Xg,ZG,YP,Zk,ZX,or_false,forall_eq_or_imp,forall_eq]at f;obtain⟨h0,g,h,i,j,o,q,r⟩:=f;exact zF c a h0 g h i j o q r
theorem AR {E:Xb}{K k v i:Nat}(f:E.mode=md)(h9:9<=K){lo by_ fst lp C c1 c2 c3 c4 q s t w x y z u F z2 H I:PL}{l:Nat}(A:65535<=l){m b:List Nat}(O:m.length=8)(L:b.length=8)(hs:∀e∈Xg b m,e<=65535){a:List (List PL)}(S:Sl C a)(V:a.length<1000000)(W:a[i]? =some (x::y::z::u::mo b))
  (B:E.pure 90 [.agg [q,s,t,w],.agg [x,y,z,u]]=some (.agg [F,z2,H,I])) {g j rs:List (List PL)} (Q:Ta E lo (Xg b m) g j []) (J:∀d∈g,d.length=12) (R:Sl lp g) {o:List (List PL)} (a0:o.length+g.length<900000) (hK:g.length<K) (b0:j.length<=g.length)
  {r:Int} (P:E.pure 132 [.agg [F,z2,H,I]]=some (.one (.int .i64 r))) (h0:OX r (.ofNat 0)=false) (G:List Xz):
  ∃G' T c,Xc E K 0 [1,4,6,10,11,24,25,26] x105_3 (k+1) ⟨[(1,.one (.p lp)),(4,.one (.ptr 0 0 0 0)),(6,.one (.ptr 1 0 0 0)),(10,.one (.ptr 2 0 0 0)),(11,.one (.own 3 v 0 o.length)),(24,.one (.p C)),(25,.one (.p (.int .i64 (.ofNat a.length)))),(26,.one (.p (.int .i64 (.ofNat i))))],S5 lo by_ l fst::Um c1 c2 c3 c4 m::O8 q s t w::T8 v o::G⟩=
   Xc E K 0 [1,4,6,10,11,24,25,26] x105_3 k ⟨[(1,.one (.p c)),(4,.one (.ptr 0 0 0 0)),(6,.one (.ptr 1 0 0 0)),(10,.one (.ptr 2 0 0 0)),(11,.one (.own 3 T 0 (o.length+j.length+1))),(24,.one (.p C)),(25,.one (.p (.int .i64 (.ofNat a.length)))),(26,.one (.p (.int .i64 (.ofNat (i+1)))))],S5 lo by_ l fst::Um c1 c2 c3 c4 m::O8 q s t w::T8 T ((o++j)++[F::z2::H::I::mo (Xg b m)])::G'⟩/\Sl c []:=by
 have N:i<a.length:=(Zd.mp W).1;have m8:=O;have Z:=L;have U:(Xg b m).length=8:=by simp[Xg,O,L]
 have tk:(Xm b).take 8=Xm b:=Zb (by rw[Xa];omega);have dk:(Xm b).drop 8=[]:=Zj (by rw[Xa];omega);have ta:(Xm (Xg b m)).take 8=Xm (Xg b m):=Zb (by rw[Xa];omega);have da:(Xm (Xg b m)).drop 8=[]:=Zj (by rw[Xa];omega);have ip:=fun(hh:HF) (kd:IntKind)=>S.idx (h:=hh) (k:=kd) (sz:=12) W (by simp[Xy,Z])
 have f1:Xe .i64 (.ofNat (i+1))=.ofNat (i+1):=wrap_i64 (by omega);have f2:(o.length+j.length+1)*128<=lim:=by unfold lim;omega
 have f3:o.length+j.length+1<=9223372036854775807:=by omega
 have w1:=Xo b;have w2:=Xo (Xg b m);obtain⟨T1,Y,a1,a2,a3,a4,a5,a6,a7,a8,a9⟩:=eb (K:=K) (by_:=by_) (fst:=fst) (lp:=lp) (c1:=c1) (c2:=c2) (c3:=c3) (c4:=c4) (x:=x) (y:=y) (z:=z) (u:=u) (lo:=lo) (s24:=.p C) (s25:=.p (.int .i64 (.ofNat a.length))) (s26:=.p (.int .i64 (.ofNat i))) (v:=v) (n:=o.length) (B2:=O8 q s t w) (B3:=T8 v o) (G:=G) f A O L hs h9;obtain⟨T2,G2,T,c,X,⟨e1,e2,e3,e4,e5,e6,e7,e8,e9⟩,D⟩:=NP (K:=K) (by_:=by_) (fst:=fst) (l:=l) (x2:=F) (y2:=z2) (z2:=H) (u2:=I) (s24:=.p C) (s25:=.p (.int .i64 (.ofNat a.length))) (s26:=.p (.int .i64 (.ofNat i))) (b1:=Um c1 c2 c3 c4 m) (b2:=O8 q s t w) f U G Q J lp K v o [] R (by omega) hK;simp only[S5,Um,O8,T8]at Y X;have M:=D.len;apply Exists.intro;apply Exists.intro;refine⟨c,?_,D⟩;rw[Xc];simp(decide:=true)only[Xp,Xq,VN,WR,reduceIte,Nat.reduceEqDiff,Nat.reduceLeDiff,Nat.reduceAdd,x105_3,f,XW,N,ip,f1,f2,f3,B,Y,a1,a2,a3,a4,a5,a6,a7,a8,a9,X,e1,e2,e3,e4,e5,e6,e7,e8,e9,M,XS,Xa,Z,U,tk,ta,Vh,Wa,Wf,Zq,Zl,Wi,Vn,P,h0];rfl
theorem xe {q1 q2 q3 q4:PL}{n:List Nat}{E:Xb}{K k v i:Nat}(f:E.mode=md)(h9:9<=K){lo by_ fst lp F c1 c2 c3 c4 s t w A x y z u H z2 I J:PL}{l:Nat}(C:65535<=l){m b:List Nat}(R:m.length=8)(O:b.length=8)(hs:∀e∈Xg b m,e<=65535){a:List (List PL)}(Z:Sl F a)(a0:a.length<1000000)(hi:a[i]? =some (x::y::z::u::mo b))
  (D:E.pure 90 [.agg [s,t,w,A],.agg [x,y,z,u]]=some (.agg [H,z2,I,J])) {j q X:List (List PL)} (V:Ta E lo (Xg b m) j q ((q1::q2::q3::q4::mo n)::X)) (M:∀d∈j,d.length=12) (Y:Sl lp j) {o:List (List PL)} (b0:o.length+j.length<900000) (hK:j.length<K) (b3:q.length<=j.length)
  {r:Int} (S:n.length=8) (T:n≠Xg b m) (U:E.pure 132 [.agg [H,z2,I,J]]=some (.one (.int .i64 r))) (h0:OX r (.ofNat 0)=false) (G:List Xz):
  ∃G' v' g,Xc E K 0 [1,4,6,10,11,24,25,26] x105_3 (k+1) ⟨[(1,.one (.p lp)),(4,.one (.ptr 0 0 0 0)),(6,.one (.ptr 1 0 0 0)),(10,.one (.ptr 2 0 0 0)),(11,.one (.own 3 v 0 o.length)),(24,.one (.p F)),(25,.one (.p (.int .i64 (.ofNat a.length)))),(26,.one (.p (.int .i64 (.ofNat i))))],S5 lo by_ l fst::Um c1 c2 c3 c4 m::O8 s t w A::T8 v o::G⟩=
   Xc E K 0 [1,4,6,10,11,24,25,26] x105_3 k ⟨[(1,.one (.p g)),(4,.one (.ptr 0 0 0 0)),(6,.one (.ptr 1 0 0 0)),(10,.one (.ptr 2 0 0 0)),(11,.one (.own 3 v' 0 (o.length+q.length+1))),(24,.one (.p F)),(25,.one (.p (.int .i64 (.ofNat a.length)))),(26,.one (.p (.int .i64 (.ofNat (i+1)))))],S5 lo by_ l fst::Um c1 c2 c3 c4 m::O8 s t w A::T8 v' ((o++q)++[H::z2::I::J::mo (Xg b m)])::G'⟩/\Sl g ((q1::q2::q3::q4::mo n)::X):=by
 have Q:i<a.length:=(Zd.mp hi).1;have m8:=R;have k8:=O;have L:(Xg b m).length=8:=by simp[Xg,R,O]
 have tk:(Xm b).take 8=Xm b:=Zb (by rw[Xa];omega);have dk:(Xm b).drop 8=[]:=Zj (by rw[Xa];omega);have ta:(Xm (Xg b m)).take 8=Xm (Xg b m):=Zb (by rw[Xa];omega);have da:(Xm (Xg b m)).drop 8=[]:=Zj (by rw[Xa];omega);have ip:=fun(N:HF) (W:IntKind)=>Z.idx (h:=N) (k:=W) (sz:=12) hi (by simp[Xy,k8])
 have f1:Xe .i64 (.ofNat (i+1))=.ofNat (i+1):=wrap_i64 (by omega);have f2:(o.length+q.length+1)*128<=lim:=by unfold lim;omega
 have f3:o.length+q.length+1<=9223372036854775807:=by omega
 have w1:=Xo b;have w2:=Xo (Xg b m);obtain⟨T1,hx,a1,a2,a3,a4,a5,a6,a7,a8,a9⟩:=eb (K:=K) (by_:=by_) (fst:=fst) (lp:=lp) (c1:=c1) (c2:=c2) (c3:=c3) (c4:=c4) (x:=x) (y:=y) (z:=z) (u:=u) (lo:=lo) (s24:=.p F) (s25:=.p (.int .i64 (.ofNat a.length))) (s26:=.p (.int .i64 (.ofNat i))) (v:=v) (n:=o.length) (B2:=O8 s t w A) (B3:=T8 v o) (G:=G) f C R O hs h9;obtain⟨T2,G2,v',g,hw,⟨e1,e2,e3,e4,e5,e6,e7,e8,e9⟩,c⟩:=NP (K:=K) (by_:=by_) (fst:=fst) (l:=l) (x2:=H) (y2:=z2) (z2:=I) (u2:=J) (s24:=.p F) (s25:=.p (.int .i64 (.ofNat a.length))) (s26:=.p (.int .i64 (.ofNat i))) (b1:=Um c1 c2 c3 c4 m) (b2:=O8 s t w A) f L G V M lp K v o [] Y (by omega) hK;simp only[S5,Um,O8,T8]at hx hw;obtain rfl:=Sl.Vp c;have P:=c.len;have ir:=fun(N:HF) (W:IntKind)=>c.idx (h:=N) (k:=W) (i:=0) (sz:=12) rfl (by simp[Xy,S])
 have l1:0<X.length+1:=by omega
 have tn:(Xm n).take 8=Xm n:=Zb (by rw[Xa];omega);have dn:(Xm n).drop 8=[]:=Zj (by rw[Xa];omega);have B:=TG S L;rw[decide_eq_false T]at B;apply Exists.intro;apply Exists.intro;refine⟨_,?_,c⟩;rw[Xc];simp(decide:=true)only[Xp,Xq,VN,WR,reduceIte,Nat.reduceEqDiff,Nat.reduceLeDiff,Nat.reduceAdd,x105_3,f,XW,Q,ip,f1,f2,f3,D,hx,a1,a2,a3,a4,a5,a6,a7,a8,a9,hw,e1,e2,e3,e4,e5,e6,e7,e8,e9,P,XS,Xa,Xy,k8,L,tk,ta,Vh,Wa,Wf,Zq,Zl,Wi,Vn,U,h0,ir,l1,B,tn,S];rfl
theorem sub_eq {V W X Y:PL}{E:Xb}{K k v i:Nat}(f:E.mode=md)(h9:9<=K){lo by_ fst lp J c1 c2 c3 c4 t w A B x y z u z1 z2 z3 z4:PL}{l:Nat}(H:65535<=l){m a:List Nat}(Q:m.length=8)(N:a.length=8)(hs:∀e∈Xg a m,e<=65535){b:List (List PL)}(b0:Sl J b)(b3:b.length<1000000)(hi:b[i]? =some (x::y::z::u::mo a))
  (I:E.pure 90 [.agg [t,w,A,B],.agg [x,y,z,u]]=some (.agg [z1,z2,z3,z4])) {es q s:List (List PL)} (S:Ta E lo (Xg a m) es q ((V::W::X::Y::mo (Xg a m))::s)) (L:∀d∈es,d.length=12) (a0:Sl lp es) {o:List (List PL)} (b4:o.length+es.length<900000) (hK:es.length<K) (b5:q.length<=es.length)
  {r:Int} {Z r2 r3 r4:PL} (T:∀d∈s,d.length=12) (D:E.pure 129 [.agg [V,W,X,Y],.agg [z1,z2,z3,z4]]=some (.agg [Z,r2,r3,r4])) (R:E.pure 132 [.agg [Z,r2,r3,r4]]=some (.one (.int .i64 r))) (h0:OX r (.ofNat 0)=false) (G:List Xz):
  ∃G' v' g,Xc E K 0 [1,4,6,10,11,24,25,26] x105_3 (k+1) ⟨[(1,.one (.p lp)),(4,.one (.ptr 0 0 0 0)),(6,.one (.ptr 1 0 0 0)),(10,.one (.ptr 2 0 0 0)),(11,.one (.own 3 v 0 o.length)),(24,.one (.p J)),(25,.one (.p (.int .i64 (.ofNat b.length)))),(26,.one (.p (.int .i64 (.ofNat i))))],S5 lo by_ l fst::Um c1 c2 c3 c4 m::O8 t w A B::T8 v o::G⟩=
   Xc E K 0 [1,4,6,10,11,24,25,26] x105_3 k ⟨[(1,.one (.p g)),(4,.one (.ptr 0 0 0 0)),(6,.one (.ptr 1 0 0 0)),(10,.one (.ptr 2 0 0 0)),(11,.one (.own 3 v' 0 (o.length+q.length+1))),(24,.one (.p J)),(25,.one (.p (.int .i64 (.ofNat b.length)))),(26,.one (.p (.int .i64 (.ofNat (i+1)))))],S5 lo by_ l fst::Um c1 c2 c3 c4 m::O8 t w A B::T8 v' ((o++q)++[Z::r2::r3::r4::mo (Xg a m)])::G'⟩/\Sl g s:=by
 have P:i<b.length:=(Zd.mp hi).1;have m8:=Q;have k8:=N;have C:(Xg a m).length=8:=by simp[Xg,Q,N]
 have tk:(Xm a).take 8=Xm a:=Zb (by rw[Xa];omega);have dk:(Xm a).drop 8=[]:=Zj (by rw[Xa];omega);have ta:(Xm (Xg a m)).take 8=Xm (Xg a m):=Zb (by rw[Xa];omega);have da:(Xm (Xg a m)).drop 8=[]:=Zj (by rw[Xa];omega);have ip:=fun(M:HF) (U:IntKind)=>b0.idx (h:=M) (k:=U) (sz:=12) hi (by simp[Xy,k8])
 have f1:Xe .i64 (.ofNat (i+1))=.ofNat (i+1):=wrap_i64 (by omega);have f2:(o.length+q.length+1)*128<=lim:=by unfold lim;omega
 have f3:o.length+q.length+1<=9223372036854775807:=by omega
 have w1:=Xo a;have w2:=Xo (Xg a m);obtain⟨T1,hx,a1,a2,a3,a4,a5,a6,a7,a8,a9⟩:=eb (K:=K) (by_:=by_) (fst:=fst) (lp:=lp) (c1:=c1) (c2:=c2) (c3:=c3) (c4:=c4) (x:=x) (y:=y) (z:=z) (u:=u) (lo:=lo) (s24:=.p J) (s25:=.p (.int .i64 (.ofNat b.length))) (s26:=.p (.int .i64 (.ofNat i))) (v:=v) (n:=o.length) (B2:=O8 t w A B) (B3:=T8 v o) (G:=G) f H Q N hs h9;obtain⟨T2,G2,v',g,hw,⟨e1,e2,e3,e4,e5,e6,e7,e8,e9⟩,j⟩:=NP (K:=K) (by_:=by_) (fst:=fst) (l:=l) (x2:=z1) (y2:=z2) (z2:=z3) (u2:=z4) (s24:=.p J) (s25:=.p (.int .i64 (.ofNat b.length))) (s26:=.p (.int .i64 (.ofNat i))) (b1:=Um c1 c2 c3 c4 m) (b2:=O8 t w A B) f C G S L lp K v o [] a0 (by omega) hK;simp only[S5,Um,O8,T8]at hx hw;obtain rfl:=Sl.Vp j;have O:=j.len;have hn:=C;have ir:=fun(M:HF) (U:IntKind)=>j.idx (h:=M) (k:=U) (i:=0) (sz:=12) rfl (by simp[Xy,hn])
 have l1:0<s.length+1:=by omega
 have tn:(Xm (Xg a m)).take 8=Xm (Xg a m):=Zb (by rw[Xa];omega);have dn:(Xm (Xg a m)).drop 8=[]:=Zj (by rw[Xa];omega);have F:=TG C C;rw[decide_eq_true rfl]at F;have j1:¬(G.length+(G2.length+1)<=G.length):=by omega
 have s1:=VW (c:=V::W::X::Y::mo (Xg a m)) (es:=s) T;apply Exists.intro;apply Exists.intro;refine⟨.Xv s,?_,.Xv⟩;rw[Xc];simp(decide:=true)only[Xp,Xq,VN,WR,reduceIte,Nat.reduceEqDiff,Nat.reduceLeDiff,Nat.reduceAdd,x105_3,f,XW,P,ip,f1,f2,f3,I,hx,a1,a2,a3,a4,a5,a6,a7,a8,a9,hw,e1,e2,e3,e4,e5,e6,e7,e8,e9,O,XS,Xa,Xy,k8,C,tk,ta,Vh,Wa,Wf,Zq,Zl,Wi,Vn,D,R,h0,ir,l1,F,s1,j1];rfl
theorem sub_zero {V W X Y:PL}{E:Xb}{K k v i:Nat}(f:E.mode=md)(h9:9<=K){lo by_ fst lp J c1 c2 c3 c4 t w A B x y z u z1 z2 z3 z4:PL}{l:Nat}(H:65535<=l){m a:List Nat}(Q:m.length=8)(N:a.length=8)(hs:∀e∈Xg a m,e<=65535){b:List (List PL)}(a0:Sl J b)(b0:b.length<1000000)(hi:b[i]? =some (x::y::z::u::mo a))
  (I:E.pure 90 [.agg [t,w,A,B],.agg [x,y,z,u]]=some (.agg [z1,z2,z3,z4])) {es q s:List (List PL)} (S:Ta E lo (Xg a m) es q ((V::W::X::Y::mo (Xg a m))::s)) (L:∀d∈es,d.length=12) (Z:Sl lp es) {o:List (List PL)} (b3:o.length+es.length<900000) (hK:es.length<K) (b4:q.length<=es.length)
  {r:Int} {r1 r2 r3 r4:PL} (T:∀d∈s,d.length=12) (D:E.pure 129 [.agg [V,W,X,Y],.agg [z1,z2,z3,z4]]=some (.agg [r1,r2,r3,r4])) (R:E.pure 132 [.agg [r1,r2,r3,r4]]=some (.one (.int .i64 r))) (h0:OX r (.ofNat 0)=true) (G:List Xz):
  ∃G' v' g,Xc E K 0 [1,4,6,10,11,24,25,26] x105_3 (k+1) ⟨[(1,.one (.p lp)),(4,.one (.ptr 0 0 0 0)),(6,.one (.ptr 1 0 0 0)),(10,.one (.ptr 2 0 0 0)),(11,.one (.own 3 v 0 o.length)),(24,.one (.p J)),(25,.one (.p (.int .i64 (.ofNat b.length)))),(26,.one (.p (.int .i64 (.ofNat i))))],S5 lo by_ l fst::Um c1 c2 c3 c4 m::O8 t w A B::T8 v o::G⟩=
   Xc E K 0 [1,4,6,10,11,24,25,26] x105_3 k ⟨[(1,.one (.p g)),(4,.one (.ptr 0 0 0 0)),(6,.one (.ptr 1 0 0 0)),(10,.one (.ptr 2 0 0 0)),(11,.one (.own 3 v' 0 (o.length+q.length))),(24,.one (.p J)),(25,.one (.p (.int .i64 (.ofNat b.length)))),(26,.one (.p (.int .i64 (.ofNat (i+1)))))],S5 lo by_ l fst::Um c1 c2 c3 c4 m::O8 t w A B::T8 v' ((o++q))::G'⟩/\Sl g s:=by
 have P:i<b.length:=(Zd.mp hi).1;have m8:=Q;have k8:=N;have C:(Xg a m).length=8:=by simp[Xg,Q,N]
 have tk:(Xm a).take 8=Xm a:=Zb (by rw[Xa];omega);have dk:(Xm a).drop 8=[]:=Zj (by rw[Xa];omega);have ta:(Xm (Xg a m)).take 8=Xm (Xg a m):=Zb (by rw[Xa];omega);have da:(Xm (Xg a m)).drop 8=[]:=Zj (by rw[Xa];omega);have ip:=fun(M:HF) (U:IntKind)=>a0.idx (h:=M) (k:=U) (sz:=12) hi (by simp[Xy,k8])
 have f1:Xe .i64 (.ofNat (i+1))=.ofNat (i+1):=wrap_i64 (by omega);have f2:(o.length+q.length+1)*128<=lim:=by unfold lim;omega
 have f3:o.length+q.length+1<=9223372036854775807:=by omega
 have w1:=Xo a;have w2:=Xo (Xg a m);obtain⟨T1,hx,a1,a2,a3,a4,a5,a6,a7,a8,a9⟩:=eb (K:=K) (by_:=by_) (fst:=fst) (lp:=lp) (c1:=c1) (c2:=c2) (c3:=c3) (c4:=c4) (x:=x) (y:=y) (z:=z) (u:=u) (lo:=lo) (s24:=.p J) (s25:=.p (.int .i64 (.ofNat b.length))) (s26:=.p (.int .i64 (.ofNat i))) (v:=v) (n:=o.length) (B2:=O8 t w A B) (B3:=T8 v o) (G:=G) f H Q N hs h9;obtain⟨T2,G2,v',g,hw,⟨e1,e2,e3,e4,e5,e6,e7,e8,e9⟩,j⟩:=NP (K:=K) (by_:=by_) (fst:=fst) (l:=l) (x2:=z1) (y2:=z2) (z2:=z3) (u2:=z4) (s24:=.p J) (s25:=.p (.int .i64 (.ofNat b.length))) (s26:=.p (.int .i64 (.ofNat i))) (b1:=Um c1 c2 c3 c4 m) (b2:=O8 t w A B) f C G S L lp K v o [] Z (by omega) hK;simp only[S5,Um,O8,T8]at hx hw;obtain rfl:=Sl.Vp j;have O:=j.len;have hn:=C;have ir:=fun(M:HF) (U:IntKind)=>j.idx (h:=M) (k:=U) (i:=0) (sz:=12) rfl (by simp[Xy,hn])
 have l1:0<s.length+1:=by omega
 have tn:(Xm (Xg a m)).take 8=Xm (Xg a m):=Zb (by rw[Xa];omega);have dn:(Xm (Xg a m)).drop 8=[]:=Zj (by rw[Xa];omega);have F:=TG C C;rw[decide_eq_true rfl]at F;have j1:¬(G.length+(G2.length+1)<=G.length):=by omega
 have s1:=VW (c:=V::W::X::Y::mo (Xg a m)) (es:=s) T;apply Exists.intro;apply Exists.intro;refine⟨.Xv s,?_,.Xv⟩;rw[Xc];simp(decide:=true)only[Xp,Xq,VN,WR,reduceIte,Nat.reduceEqDiff,Nat.reduceLeDiff,Nat.reduceAdd,x105_3,f,XW,P,ip,f1,I,hx,a1,a2,a3,a4,a5,a6,a7,a8,a9,hw,e1,e2,e3,e4,e5,e6,e7,e8,e9,O,XS,Xa,Xy,k8,C,tk,ta,Wa,Wf,Zl,D,R,h0,ir,l1,F,s1,j1];rfl
inductive gV (E:Xb)(lo:PL)(d:List PL)(m:List Nat):List (List PL)->List (List PL)->List (List PL)->List (List PL)->Prop
 |nil {es:List (List PL)}:gV E lo d m es [] [] es
 |none {x y z u z1 z2 z3 z4:PL} {kk:List Nat} {es os qs pre rest:List (List PL)} {r:Int} (hk:kk.length=8) (hs:∀e∈Xg kk m,e<=65535) (hmul:E.pure 90 [.agg d,.agg [x,y,z,u]]=some (.agg [z1,z2,z3,z4])) (hwh:Ta E lo (Xg kk m) es os [])
   (hsg:E.pure 132 [.agg [z1,z2,z3,z4]]=some (.one (.int .i64 r))) (h0:OX r (.ofNat 0)=false) (h:gV E lo d m [] qs pre rest):gV E lo d m es ((x::y::z::u::mo kk)::qs) (os++(z1::z2::z3::z4::mo (Xg kk m))::pre) rest
 |diff {x y z u z1 z2 z3 z4 q1 q2 q3 q4:PL} {kk n:List Nat} {es os rs qs pre rest:List (List PL)} {r:Int} (hk:kk.length=8) (hs:∀e∈Xg kk m,e<=65535) (hmul:E.pure 90 [.agg d,.agg [x,y,z,u]]=some (.agg [z1,z2,z3,z4])) (hwh:Ta E lo (Xg kk m) es os ((q1::q2::q3::q4::mo n)::rs))
   (hn:n.length=8) (hne:n≠Xg kk m) (hsg:E.pure 132 [.agg [z1,z2,z3,z4]]=some (.one (.int .i64 r))) (h0:OX r (.ofNat 0)=false) (h:gV E lo d m ((q1::q2::q3::q4::mo n)::rs) qs pre rest):
   gV E lo d m es ((x::y::z::u::mo kk)::qs) (os++(z1::z2::z3::z4::mo (Xg kk m))::pre) rest
 |eq {x y z u z1 z2 z3 z4 q1 q2 q3 q4 r1 r2 r3 r4:PL} {kk:List Nat} {es os rs qs pre rest:List (List PL)} {r:Int} (hk:kk.length=8) (hs:∀e∈Xg kk m,e<=65535) (hmul:E.pure 90 [.agg d,.agg [x,y,z,u]]=some (.agg [z1,z2,z3,z4])) (hwh:Ta E lo (Xg kk m) es os ((q1::q2::q3::q4::mo (Xg kk m))::rs))
   (hadd:E.pure 129 [.agg [q1,q2,q3,q4],.agg [z1,z2,z3,z4]]=some (.agg [r1,r2,r3,r4])) (hsg:E.pure 132 [.agg [r1,r2,r3,r4]]=some (.one (.int .i64 r))) (h0:OX r (.ofNat 0)=false) (h:gV E lo d m rs qs pre rest):
   gV E lo d m es ((x::y::z::u::mo kk)::qs) (os++(r1::r2::r3::r4::mo (Xg kk m))::pre) rest
 |zero {x y z u z1 z2 z3 z4 q1 q2 q3 q4 r1 r2 r3 r4:PL} {kk:List Nat} {es os rs qs pre rest:List (List PL)} {r:Int} (hk:kk.length=8) (hs:∀e∈Xg kk m,e<=65535) (hmul:E.pure 90 [.agg d,.agg [x,y,z,u]]=some (.agg [z1,z2,z3,z4])) (hwh:Ta E lo (Xg kk m) es os ((q1::q2::q3::q4::mo (Xg kk m))::rs))
   (hadd:E.pure 129 [.agg [q1,q2,q3,q4],.agg [z1,z2,z3,z4]]=some (.agg [r1,r2,r3,r4])) (hsg:E.pure 132 [.agg [r1,r2,r3,r4]]=some (.one (.int .i64 r))) (h0:OX r (.ofNat 0)=true) (h:gV E lo d m rs qs pre rest):
   gV E lo d m es ((x::y::z::u::mo kk)::qs) (os++pre) rest
theorem Ta.app {E:Xb}{e:PL}{f:List Nat}{a b c:List (List PL)}(h:Ta E e f a b c):a=b++c:=by
 induction h with
 |xh=>rfl
 |stop=>rfl
 |go i g h d=>rw[d];rfl
theorem Da {E:Xb}{K:Nat}(W:E.mode=md)(h9:9<=K){lo by_ fst lq c1 c2 c3 c4 d1 d2 d3 d4:PL}{l:Nat}(H:65535<=l){m:List Nat}(hm:m.length=8){t:List (List PL)}(Z:Sl lq t)(a2:t.length<400000){F Y a rest:List (List PL)}(h:gV E lo [d1,d2,d3,d4] m F Y a rest):
  (∀d∈F,d.length=12)->∀(R:PL) (i k v:Nat) (o:List (List PL)) (G:List Xz),Sl R F->t.drop i=Y->i+Y.length=t.length->o.length+F.length+Y.length<900000->F.length<K->Y.length<k->
  ∃j T S g,Xc E K 0 [1,4,6,10,11,24,25,26] x105_3 k ⟨[(1,.one (.p R)),(4,.one (.ptr 0 0 0 0)),(6,.one (.ptr 1 0 0 0)),(10,.one (.ptr 2 0 0 0)),(11,.one (.own 3 v 0 o.length)),(24,.one (.p lq)),(25,.one (.p (.int .i64 (.ofNat t.length)))),(26,.one (.p (.int .i64 (.ofNat i))))],S5 lo by_ l fst::Um c1 c2 c3 c4 m::O8 d1 d2 d3 d4::T8 v o::G⟩=
   some (.exit 0,⟨j,S5 lo by_ l fst::Um c1 c2 c3 c4 m::O8 d1 d2 d3 d4::T8 S (o++a)::T⟩)/\(Xh j 1=some (.one (.p g))/\Xh j 11=some (.one (.own 3 S 0 (o++a).length)))/\Sl g rest/\(∀d∈rest,d.length=12):=by
 induction h with
 |@nil F=>
  intro b R i k v o G sp s V ho hK hk;obtain⟨k,rfl⟩:∃X,k=X+1:=⟨k-1,by omega⟩;have a0:¬i<t.length:=by simp at V;omega
  have :∃j,Xc E K 0 [1,4,6,10,11,24,25,26] x105_3 (k+1) ⟨[(1,.one (.p R)),(4,.one (.ptr 0 0 0 0)),(6,.one (.ptr 1 0 0 0)),(10,.one (.ptr 2 0 0 0)),(11,.one (.own 3 v 0 o.length)),(24,.one (.p lq)),(25,.one (.p (.int .i64 (.ofNat t.length)))),(26,.one (.p (.int .i64 (.ofNat i))))],S5 lo by_ l fst::Um c1 c2 c3 c4 m::O8 d1 d2 d3 d4::T8 v o::G⟩=
   some (.exit 0,⟨j,S5 lo by_ l fst::Um c1 c2 c3 c4 m::O8 d1 d2 d3 d4::T8 v o::G⟩)/\(Xh j 1=some (.one (.p R))/\Xh j 11=some (.one (.own 3 v 0 o.length))):=by
   apply VM
   ·rw[Xc];simp only[Xp,Xq,reduceIte,Nat.reduceEqDiff,x105_3,a0];rfl
   ·refine⟨?_,?_⟩<;>simp only[Xp,reduceIte,Nat.reduceEqDiff]
  obtain⟨j,U,q⟩:=this;exact⟨j,G,v,R,by rw[ZN];exact U,by rw[ZN];exact q,sp,b⟩
 |@none x y z u M N O P B F c Y a rest r hk hs e f A h0 h ih=>
  intro b R i k v o G sp s V ho hK w;obtain⟨k,rfl⟩:∃X,k=X+1:=⟨k-1,by omega⟩;simp only[Zi]at V ho w;obtain⟨gp,dp⟩:=Xf s;have Q:=f.app;have el:F.length=c.length+0:=by rw[Q];simp
  obtain⟨G1,v1,C,U,D⟩:=AR (rs:=[]) (k:=k) (v:=v) (by_:=by_) (fst:=fst) (c1:=c1) (c2:=c2) (c3:=c3) (c4:=c4) (o:=o) W h9 H hm hk hs Z (by omega) gp e f b sp (by omega) hK (by omega) A h0 G;obtain⟨j,T,S,g,q,I,g4⟩:=ih (fun _ s=>by cases s) C (i+1) k v1 (o++c++[M::N::O::P::mo (Xg B m)]) G1 D dp (by omega) (by simp;omega) (by simp;omega) (by omega);rw[show(o++c++[M::N::O::P::mo (Xg B m)]).length=o.length+c.length+1 by simp;omega]at q;rw[show o++c++[M::N::O::P::mo (Xg B m)]++a=o++(c++(M::N::O::P::mo (Xg B m))::a)by simp]at q I;exact⟨j,T,S,g,U.trans q,I,g4⟩
 |@diff x y z u M N O P q1 q2 q3 q4 B n F c rs Y a rest r hk hs e f hn a1 A h0 h ih=>
  intro b R i k v o G sp s V ho hK w;obtain⟨k,rfl⟩:∃X,k=X+1:=⟨k-1,by omega⟩;simp only[Zi]at V ho w;obtain⟨gp,dp⟩:=Xf s;have Q:=f.app;have el:F.length=c.length+(rs.length+1):=by rw[Q];simp
  obtain⟨G1,v1,C,U,D⟩:=xe (k:=k) (v:=v) (by_:=by_) (fst:=fst) (c1:=c1) (c2:=c2) (c3:=c3) (c4:=c4) (o:=o) W h9 H hm hk hs Z (by omega) gp e f b sp (by omega) hK (by omega) hn a1 A h0 G;obtain⟨j,T,S,g,q,I,g4⟩:=ih (fun d s=>b d (by rw[Q];exact List.mem_append_right _ s)) C (i+1) k v1 (o++c++[M::N::O::P::mo (Xg B m)]) G1 D dp (by omega) (by simp;omega) (by simp;omega) (by omega);rw[show(o++c++[M::N::O::P::mo (Xg B m)]).length=o.length+c.length+1 by simp;omega]at q;rw[show o++c++[M::N::O::P::mo (Xg B m)]++a=o++(c++(M::N::O::P::mo (Xg B m))::a)by simp]at q I;exact⟨j,T,S,g,U.trans q,I,g4⟩
 |@eq x y z u M N O P q1 q2 q3 q4 r1 r2 r3 r4 B F c rs Y a rest r hk hs e f J A h0 h ih=>
  intro b R i k v o G sp s V ho hK w;obtain⟨k,rfl⟩:∃X,k=X+1:=⟨k-1,by omega⟩;simp only[Zi]at V ho w;obtain⟨gp,dp⟩:=Xf s;have Q:=f.app;have el:F.length=c.length+(rs.length+1):=by rw[Q];simp
  have L:∀d∈rs,d.length=12:=fun d s=>b d (by rw[Q];exact List.mem_append_right _ (Zc _ s))
  obtain⟨G1,v1,C,U,D⟩:=sub_eq (k:=k) (v:=v) (by_:=by_) (fst:=fst) (c1:=c1) (c2:=c2) (c3:=c3) (c4:=c4) (o:=o) W h9 H hm hk hs Z (by omega) gp e f b sp (by omega) hK (by omega) L J A h0 G;obtain⟨j,T,S,g,q,I,g4⟩:=ih L C (i+1) k v1 (o++c++[r1::r2::r3::r4::mo (Xg B m)]) G1 D dp (by omega) (by simp;omega) (by omega) (by omega);rw[show(o++c++[r1::r2::r3::r4::mo (Xg B m)]).length=o.length+c.length+1 by simp;omega]at q;rw[show o++c++[r1::r2::r3::r4::mo (Xg B m)]++a=o++(c++(r1::r2::r3::r4::mo (Xg B m))::a)by simp]at q I;exact⟨j,T,S,g,U.trans q,I,g4⟩
 |@zero x y z u M N O P q1 q2 q3 q4 r1 r2 r3 r4 B F c rs Y a rest r hk hs e f J A h0 h ih=>
  intro b R i k v o G sp s V ho hK w;obtain⟨k,rfl⟩:∃X,k=X+1:=⟨k-1,by omega⟩;simp only[Zi]at V ho w;obtain⟨gp,dp⟩:=Xf s;have Q:=f.app;have el:F.length=c.length+(rs.length+1):=by rw[Q];simp
  have L:∀d∈rs,d.length=12:=fun d s=>b d (by rw[Q];exact List.mem_append_right _ (Zc _ s))
  obtain⟨G1,v1,C,U,D⟩:=sub_zero (k:=k) (v:=v) (by_:=by_) (fst:=fst) (c1:=c1) (c2:=c2) (c3:=c3) (c4:=c4) (o:=o) W h9 H hm hk hs Z (by omega) gp e f b sp (by omega) hK (by omega) L J A h0 G;obtain⟨j,T,S,g,q,I,g4⟩:=ih L C (i+1) k v1 (o++c) G1 D dp (by omega) (by simp;omega) (by omega) (by omega);rw[show(o++c).length=o.length+c.length by simp]at q;rw[Zq]at q I;exact⟨j,T,S,g,U.trans q,I,g4⟩
end Go.Proofs.YtefpgecinlekpaaGreat
namespace Go.Num
def Vx (o:List (List Int))(mm:List Nat):List Qm->List Qm×List Qm
 |[]=>([],[])
 |s::p=>if WQ o s.2 mm=.ofNat 1 then(s::(Vx o mm p).1,(Vx o mm p).2)else([],s::p)
def Tp (o:List (List Int))(c:Rat)(m:List Nat):List Qm->List Qm->List Qm
 |p,[]=>p
 |p,t::q=>match Vx o (Xg t.2 m) p with
  |(os,[])=>os++(c*t.1,Xg t.2 m)::Tp o c m [] q
  |(os,s::rs)=>if s.2=Xg t.2 m then(if s.1+c*t.1=0 then os++Tp o c m rs q else os++(s.1+c*t.1,Xg t.2 m)::Tp o c m rs q)else os++(c*t.1,Xg t.2 m)::Tp o c m (s::rs) q
end Go.Num
namespace Go.Proofs.YtefpgecinlekpaaGreat
open Go.Ev Go.Num
theorem iN {B:Xr}(w:Std B){A:PL}{o:List (List Int)}(C:S6 A o)(z:VE o)(i:o.length<1000000){f:List Nat}(g:XL f):∀{v:List (List PL)} {p:List Qm},X2 v p->∃u k,(X0 B fun E _=>Ta E A f v u k)/\X2 u (Vx o f p).1/\X2 k (Vx o f p).2
 |_,_,.nil=>⟨[],[],X0.of fun _ _=>.xh,.nil,.nil⟩
 |_,_,.cons (x:=c) (y:=s) r h=>by
  have t:=r;obtain⟨n,a,d,b,rfl,q,m⟩:=t;have l:=OM w C z m g i;unfold Vx;by_cases j:WQ o s.2 f=.ofNat 1
  ·rw[if_pos j];rw[j]at l;obtain⟨u,k,D,F,G⟩:=iN w C z i g h;exact⟨_,k,(D.and l.Xi).mono fun E K ⟨e1,e2⟩=>.go m.1 e2 e1,.cons r F,G⟩
  ·rw[if_neg j];refine⟨[],_,l.Xi.mono fun E K e=>.stop m.1 e ?_,.nil,.cons r h⟩;rcases VC o s.2 f with h2|h2|h2
   ·exact absurd h2 j
   ·rw[h2];rfl
   ·rw[h2];rfl
theorem Sz.sub {a b:List Qm}(h:Sz a)(c:∀t∈b,t∈a):Sz b:=fun t d=>h t (c t d)
theorem Q3 (o:List (List Int))(a:List Nat):∀p,(Vx o a p).1++(Vx o a p).2=p
 |[]=>rfl
 |s::p=>by
  unfold Vx;split
  ·rw[ZR,Q3 o a p]
  ·rfl
theorem dN {B:Xr}(j:Std B){lo:PL}{o:List (List Int)}(Q:S6 lo o)(N:VE o)(g:o.length<1000000){d:List PL}{c:Rat}(L:RX d c)(J:Sq c)(H:c≠0){m:List Nat}(V:XL m):∀{qs:List (List PL)} {q:List Qm},X2 qs q->Sz q->(∀t∈q,XL (Xg t.2 m)/\t.1≠0/\Sq (c*t.1))->
  ∀{es:List (List PL)} {p:List Qm},X2 es p->Sz p->∃f rest,(X0 B fun E _=>gV E lo d m es qs f rest)/\X2 (f++rest) (Tp o c m p q)
 |_,_,.nil,_,_,es,p,hp,_=>⟨[],es,X0.of fun _ _=>.nil,hp⟩
 |_,_,.cons (x:=x) (y:=t) (ys:=q) ht h,hz,hq,es,p,hp,zp=>by
  obtain⟨i,h2,h3⟩:=hq t (Ze ..);have z:∀t∈q,XL (Xg t.2 m)/\t.1≠0/\Sq (c*t.1):=fun u Y=>hq u (Zc _ Y)
  obtain⟨os,rs,I,D,g3⟩:=iN j Q N g i hp;have k:=Q3 o (Xg t.2 m) p;have X:=ht;obtain⟨n,a,e,b,rfl,qq,M⟩:=X;obtain⟨w,O,G⟩:=ff j L qq J hz.head;have T:c*t.1≠0:=fun h=>(Rat.mul_eq_zero.1 h).elim H h2
  have k3:=Rt j G;have k0:=uI T;obtain⟨n1,a1,d1,b1,rfl⟩:=G.len;unfold Tp;generalize a0:Vx o (Xg t.2 m) p=sp at D g3 k;obtain⟨P,R⟩:=sp;cases g3 with
  |nil=>
   obtain⟨f,rest,A,C⟩:=dN j Q N g L J H V h hz.tail z (es:=[]) (p:=[]) .nil Sz.nil;refine⟨_,rest,(I.and (O.Xi.and (k3.Xi.and A))).mono fun E K ⟨e1,e2,e3,l⟩=>.none M.1 i.2 e2 e1 e3 k0 l,?_⟩;rw[Zq,ZR];exact D.append (.cons (Vd.mk G i) C)
  |@cons r s rs R hr hR=>
   have zR:Sz (s::R):=zp.sub fun u Y=>by rw[<-k];exact List.mem_append_right _ Y
   have W:=hr;obtain⟨n2,a2,d2,b2,rfl,q2,U⟩:=W;show∃f rest,_/\X2 (f++rest) (if s.2=Xg t.2 m then(if s.1+c*t.1=0 then P++Tp o c m R _ else P++(s.1+c*t.1,Xg t.2 m)::Tp o c m R _)else P++(c*t.1,Xg t.2 m)::Tp o c m (s::R) _);by_cases F:s.2=Xg t.2 m
   ·rw[if_pos F];obtain⟨s1,s2⟩:=s;simp only at F;subst F;obtain⟨v,v1,Z⟩:=nw j q2 G zR.head h3;have v3:=Rt j Z;obtain⟨n3,a3,d3,b3,rfl⟩:=Z.len;obtain⟨f,rest,A,C⟩:=dN j Q N g L J H V h hz.tail z hR zR.tail;by_cases h0:s1+c*t.1=0
    ·rw[if_pos h0];simp only[h0]at v3;refine⟨_,rest,(I.and (O.Xi.and (v1.Xi.and (v3.Xi.and A)))).mono fun E K ⟨e1,e2,e3,l,S⟩=>.zero M.1 i.2 e2 e1 e3 l EN S,?_⟩;rw[Zq];exact D.append C
    ·rw[if_neg h0];refine⟨_,rest,(I.and (O.Xi.and (v1.Xi.and (v3.Xi.and A)))).mono fun E K ⟨e1,e2,e3,l,S⟩=>.eq M.1 i.2 e2 e1 e3 l (uI h0) S,?_⟩;rw[Zq,ZR];exact D.append (.cons (Vd.mk Z i) C)
   ·rw[if_neg F];obtain⟨f,rest,A,C⟩:=dN j Q N g L J H V h hz.tail z (.cons hr hR) zR;refine⟨_,rest,(I.and (O.Xi.and (k3.Xi.and A))).mono fun E K ⟨e1,e2,e3,l⟩=>.diff M.1 i.2 e2 e1 U.1 F e3 k0 l,?_⟩;rw[Zq,ZR];exact D.append (.cons (Vd.mk G i) C)
theorem NU (o:List (List Int))(c:Rat)(m:List Nat):∀(q p:List Qm),(Tp o c m p q).length<=p.length+q.length
 |[],p=>by simp[Tp]
 |t::q,p=>by
  have a:=congrArg List.length (Q3 o (Xg t.2 m) p);rw[Zl]at a;unfold Tp;generalize Vx o (Xg t.2 m) p=sp at a;obtain⟨P,R⟩:=sp;cases R with
  |nil=>
   have:=NU o c m q [];simp only[Zl,Zi,Zu]at a this⊢;omega
  |cons s R=>
   have d:=NU o c m q R;have b:=NU o c m q (s::R);simp only[Zi]at a b⊢;split
   ·split<;>simp only[Zl,Zi]<;>omega
   ·simp only[Zl,Zi];omega
theorem kx {B:Xr}(v:Std B){Q by_ fst:PL}{l:Nat}(j:65535<=l){o:List (List Int)}(so:S6 Q o)(ho:VE o)(C:o.length<1000000){S:List PL}{s:Qm}(hs:Vd S s)(V:Sq s.1)(s0:s.1≠0){lp R:PL}{p q:List Qm}(m:PQ lp p)(zp:Sz p)(x:PQ R q)(zq:Sz q)
  (F:∀t∈q,XL (Xg t.2 s.2)/\t.1≠0/\Sq (-s.1*t.1)) (l1:p.length<400000) (l2:q.length<400000):
  ∃g,Xs B 105 [.agg [Q,by_,.int .i64 (.ofNat l),fst],.one lp,.agg S,.one R] (.XY [.one (.Xv g),.one (.bool true)])/\X2 g (Tp o (-s.1) s.2 p q):=by
 obtain⟨i,T,m⟩:=m;obtain⟨u,U,x⟩:=x;have W:=m.length;have X:=x.length;obtain⟨I,J,c3,L,rfl,w,A⟩:=hs;obtain⟨d,h1,N⟩:=nu v w V;have n0: -s.1≠0:=fun h=>s0 (by rw[<-Rat.neg_neg s.1,h];rfl)
 obtain⟨f,rest,g1,M⟩:=dN v so ho C N V.neg n0 A x zq F m zp;obtain⟨n,a,e,b,rfl⟩:=N.len;refine⟨f++rest,Xs.of (v.X6 _ _ rfl) ((g1.and (h1.Xi.and (v.Xi.and (X0.ge (i.length+u.length+10))))).mono fun E K ⟨e1,e2,k,hK⟩=> ?_),M⟩;obtain⟨T',G',v',a1,H,⟨k2,P⟩,k4,k5⟩:=Da (K:=K) (by_:=by_) (fst:=fst) (c1:=.bool I) (c2:=J) (c3:=.bool c3) (c4:=L) k (by omega) j A.1 U (by omega) e1 (fun d z=>Qi.len (X2.aF m d z)) lp 0 K 0 [] [] T rfl (by omega) (by simp;omega) (by omega) (by omega);rw[ZO]at H P;have m8:=A.1;have tm:(Xm s.2).take 8=Xm s.2:=Zb (by rw[Xa];omega);have Y:Xe .i64 (.ofNat (i.length+u.length))=.ofNat (i.length+u.length):=wrap_i64 (by omega);have Z:128*(i.length+u.length)<=lim:=by unfold lim;omega
 have f2:i.length+u.length<=9223372036854775807:=by omega
 have w1:=Xo s.2;have y:=fun h=>k4.chunks (h:=h)
 have D:=M.length;have a0:=NU o (-s.1) s.2 q p;rw[Zl]at D;have f3:(f.length+rest.length)*128<=lim:=by unfold lim;omega
 have f4:f.length+rest.length<=9223372036854775807:=by omega
 have f5:(rest.map (·.map DL.p)).all (fun c=>decide (c.length=12))=true:=by
  rw[ZP];intro c w;simp only[ZH]at w;obtain⟨d,z,rfl⟩:=w;simp[k5 d z]
 have f6:(rest.map (·.map DL.p)).length=rest.length:=by simp
 have G:=Ui (f++rest) (Zh _);have O:=fun h=>Ux 5 h (f++rest)
 have r:=yG f rest;rw[Zl]at G;simp only[Zu,S5,Um,O8,T8,pc,ZT]at H;simp only[pc]at G O r;simp only[Xp,Xq,VN,reduceIte,Nat.reduceEqDiff,Nat.reduceLeDiff,Nat.reduceAdd,Zs,x105,T.len,U.len,k,XW,XS,Xa,m8,e2,Y,Z,f2,H,k2,P,y,f3,f4,f5,f6,r,G,O,Zy,Zl,Zh]
end Go.Proofs.YtefpgecinlekpaaGreat
