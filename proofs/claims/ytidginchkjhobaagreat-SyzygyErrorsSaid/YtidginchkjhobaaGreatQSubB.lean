/- Division: subtract, the rounds over the terms of a divisor (written by gen_qsub3.py). -/
import Derived.Test.YtidginchkjhobaaGreatQSub
set_option maxHeartbeats 16000000
set_option maxRecDepth 100000
namespace Go.Proofs.YtidginchkjhobaaGreat
open Go.Ev Go.Num
theorem Rr {m n:List Nat}(a:m.length=8)(c:n.length=8):Ul false .i64 8 [.agg (Xu m),.agg (Xu n)]=some ⟨.one (.p (.bool (decide (m=n)))),[],[],[]⟩:=by
 have b:Nat.beq (Xu m).length 8=true:=by rw[Xc,a];rfl
 simp only[Ul,Vc.pure,b,cond_true,V0 m n (by rw[a,c])];simp
theorem eb {E:Xa}{K:Nat}(c:E.mode=md){lo by_ fst lp c1 c2 c3 c4 x y z u:PL}{s24 s25 s26:DL}{l v n:Nat}(a:65535<=l){B2 B3:Xz}{G:List Xz}{m b:List Nat}(t:m.length=8)(s:b.length=8)(f:∀e∈Xg b m,e<=65535){k:Nat}(A:9<=k):
  ∃d,Xb E K 0 [1,4,6,10,11,13,24,25,26,30] x144_1 k ⟨[(1,.one (.p lp)),(4,.one (.ptr 0 0 0 0)),(6,.one (.ptr 1 0 0 0)),(10,.one (.ptr 2 0 0 0)),(11,.one (.own 3 v 0 n)),(13,.one (.ptr (G.length+1+1+1+1) 0 0 0)),(24,.one s24),(25,.one s25),(26,.one s26),(30,.one (.p (.int .i64 (.ofNat 0))))],S5 lo by_ l fst::Uj c1 c2 c3 c4 m::B2::B3::(G++[Uj x y z u b])⟩=
   some (.exit 2,⟨d,S5 lo by_ l fst::Uj c1 c2 c3 c4 m::B2::B3::(G++[Uj x y z u (Xg b m)])⟩)/\mc d lp v n (G.length+1+1+1+1) s24 s25 s26:=by
 obtain⟨B,C,D,F,H,I,J,L,rfl⟩:=eight s;obtain⟨M,N,O,P,Q,R,S,T,rfl⟩:=eight t;obtain⟨k,rfl⟩:∃w,k=w+9:=⟨k-9,by omega⟩;simp only[Xg,Zw,Z1,Zj,Z0,or_false,forall_eq_or_imp,forall_eq]at f;obtain⟨h0,g,h,i,j,o,q,r⟩:=f;exact zD c a h0 g h i j o q r
theorem AP {E:Xa}{K k v i:Nat}(f:E.mode=md)(h9:9<=K){lo by_ fst lp C c1 c2 c3 c4 q s t w x y z u F z2 H I:PL}{l:Nat}(A:65535<=l){m b:List Nat}(O:m.length=8)(L:b.length=8)(hs:∀e∈Xg b m,e<=65535){a:List (List PL)}(S:Sl C a)(V:a.length<1000000)(W:a[i]? =some (x::y::z::u::mo b))
  (B:E.pure 64 [.agg [q,s,t,w],.agg [x,y,z,u]]=some (.agg [F,z2,H,I])) {g j rs:List (List PL)} (Q:U9 E lo (Xg b m) g j []) (J:∀d∈g,d.length=12) (R:Sl lp g) {o:List (List PL)} (a0:o.length+g.length<900000) (hK:g.length<K) (b0:j.length<=g.length)
  {r:Int} (P:E.pure 158 [.agg [F,z2,H,I]]=some (.one (.int .i64 r))) (h0:Pc r (.ofNat 0)=false) (G:List Xz):
  ∃G' T c,Xb E K 0 [1,4,6,10,11,24,25,26] x144_3 (k+1) ⟨[(1,.one (.p lp)),(4,.one (.ptr 0 0 0 0)),(6,.one (.ptr 1 0 0 0)),(10,.one (.ptr 2 0 0 0)),(11,.one (.own 3 v 0 o.length)),(24,.one (.p C)),(25,.one (.p (.int .i64 (.ofNat a.length)))),(26,.one (.p (.int .i64 (.ofNat i))))],S5 lo by_ l fst::Uj c1 c2 c3 c4 m::OY q s t w::T7 v o::G⟩=
   Xb E K 0 [1,4,6,10,11,24,25,26] x144_3 k ⟨[(1,.one (.p c)),(4,.one (.ptr 0 0 0 0)),(6,.one (.ptr 1 0 0 0)),(10,.one (.ptr 2 0 0 0)),(11,.one (.own 3 T 0 (o.length+j.length+1))),(24,.one (.p C)),(25,.one (.p (.int .i64 (.ofNat a.length)))),(26,.one (.p (.int .i64 (.ofNat (i+1)))))],S5 lo by_ l fst::Uj c1 c2 c3 c4 m::OY q s t w::T7 T ((o++j)++[F::z2::H::I::mo (Xg b m)])::G'⟩/\Sl c []:=by
 have N:i<a.length:=(Zb.mp W).1;have m8:=O;have Z:=L;have U:(Xg b m).length=8:=by simp[Xg,O,L]
 have tk:(Xu b).take 8=Xu b:=Zd (by rw[Xc];omega);have dk:(Xu b).drop 8=[]:=Zm (by rw[Xc];omega);have ta:(Xu (Xg b m)).take 8=Xu (Xg b m):=Zd (by rw[Xc];omega);have da:(Xu (Xg b m)).drop 8=[]:=Zm (by rw[Xc];omega);have ip:=fun(hh:HF) (kd:IntKind)=>S.idx (h:=hh) (k:=kd) (sz:=12) W (by simp[XI,Z])
 have f1:Xe .i64 (.ofNat (i+1))=.ofNat (i+1):=wrap_i64 (by omega);have f2:(o.length+j.length+1)*128<=lim:=by unfold lim;omega
 have f3:o.length+j.length+1<=9223372036854775807:=by omega
 have w1:=XT b;have w2:=XT (Xg b m);obtain⟨T1,Y,a1,a2,a3,a4,a5,a6,a7,a8,a9⟩:=eb (K:=K) (by_:=by_) (fst:=fst) (lp:=lp) (c1:=c1) (c2:=c2) (c3:=c3) (c4:=c4) (x:=x) (y:=y) (z:=z) (u:=u) (lo:=lo) (s24:=.p C) (s25:=.p (.int .i64 (.ofNat a.length))) (s26:=.p (.int .i64 (.ofNat i))) (v:=v) (n:=o.length) (B2:=OY q s t w) (B3:=T7 v o) (G:=G) f A O L hs h9;obtain⟨T2,G2,T,c,X,⟨e1,e2,e3,e4,e5,e6,e7,e8,e9⟩,D⟩:=NK (K:=K) (by_:=by_) (fst:=fst) (l:=l) (x2:=F) (y2:=z2) (z2:=H) (u2:=I) (s24:=.p C) (s25:=.p (.int .i64 (.ofNat a.length))) (s26:=.p (.int .i64 (.ofNat i))) (b1:=Uj c1 c2 c3 c4 m) (b2:=OY q s t w) f U G Q J lp K v o [] R (by omega) hK;simp only[S5,Uj,OY,T7]at Y X;have M:=D.len;apply Exists.intro;apply Exists.intro;refine⟨c,?_,D⟩;rw[Xb];simp(decide:=true)only[Xm,Xq,Vg,Vm,reduceIte,Nat.reduceEqDiff,Nat.reduceLeDiff,Nat.reduceAdd,x144_3,f,X5,N,ip,f1,f2,f3,B,Y,a1,a2,a3,a4,a5,a6,a7,a8,a9,X,e1,e2,e3,e4,e5,e6,e7,e8,e9,M,Wk,Xc,Z,U,tk,ta,W5,We,Wg,Zq,Zk,Wl,Vp,P,h0];rfl
theorem xA {q1 q2 q3 q4:PL}{n:List Nat}{E:Xa}{K k v i:Nat}(f:E.mode=md)(h9:9<=K){lo by_ fst lp F c1 c2 c3 c4 s t w A x y z u H z2 I J:PL}{l:Nat}(C:65535<=l){m b:List Nat}(R:m.length=8)(O:b.length=8)(hs:∀e∈Xg b m,e<=65535){a:List (List PL)}(Z:Sl F a)(a0:a.length<1000000)(hi:a[i]? =some (x::y::z::u::mo b))
  (D:E.pure 64 [.agg [s,t,w,A],.agg [x,y,z,u]]=some (.agg [H,z2,I,J])) {j q X:List (List PL)} (V:U9 E lo (Xg b m) j q ((q1::q2::q3::q4::mo n)::X)) (M:∀d∈j,d.length=12) (Y:Sl lp j) {o:List (List PL)} (b0:o.length+j.length<900000) (hK:j.length<K) (b3:q.length<=j.length)
  {r:Int} (S:n.length=8) (T:n≠Xg b m) (U:E.pure 158 [.agg [H,z2,I,J]]=some (.one (.int .i64 r))) (h0:Pc r (.ofNat 0)=false) (G:List Xz):
  ∃G' v' g,Xb E K 0 [1,4,6,10,11,24,25,26] x144_3 (k+1) ⟨[(1,.one (.p lp)),(4,.one (.ptr 0 0 0 0)),(6,.one (.ptr 1 0 0 0)),(10,.one (.ptr 2 0 0 0)),(11,.one (.own 3 v 0 o.length)),(24,.one (.p F)),(25,.one (.p (.int .i64 (.ofNat a.length)))),(26,.one (.p (.int .i64 (.ofNat i))))],S5 lo by_ l fst::Uj c1 c2 c3 c4 m::OY s t w A::T7 v o::G⟩=
   Xb E K 0 [1,4,6,10,11,24,25,26] x144_3 k ⟨[(1,.one (.p g)),(4,.one (.ptr 0 0 0 0)),(6,.one (.ptr 1 0 0 0)),(10,.one (.ptr 2 0 0 0)),(11,.one (.own 3 v' 0 (o.length+q.length+1))),(24,.one (.p F)),(25,.one (.p (.int .i64 (.ofNat a.length)))),(26,.one (.p (.int .i64 (.ofNat (i+1)))))],S5 lo by_ l fst::Uj c1 c2 c3 c4 m::OY s t w A::T7 v' ((o++q)++[H::z2::I::J::mo (Xg b m)])::G'⟩/\Sl g ((q1::q2::q3::q4::mo n)::X):=by
 have Q:i<a.length:=(Zb.mp hi).1;have m8:=R;have k8:=O;have L:(Xg b m).length=8:=by simp[Xg,R,O]
 have tk:(Xu b).take 8=Xu b:=Zd (by rw[Xc];omega);have dk:(Xu b).drop 8=[]:=Zm (by rw[Xc];omega);have ta:(Xu (Xg b m)).take 8=Xu (Xg b m):=Zd (by rw[Xc];omega);have da:(Xu (Xg b m)).drop 8=[]:=Zm (by rw[Xc];omega);have ip:=fun(N:HF) (W:IntKind)=>Z.idx (h:=N) (k:=W) (sz:=12) hi (by simp[XI,k8])
 have f1:Xe .i64 (.ofNat (i+1))=.ofNat (i+1):=wrap_i64 (by omega);have f2:(o.length+q.length+1)*128<=lim:=by unfold lim;omega
 have f3:o.length+q.length+1<=9223372036854775807:=by omega
 have w1:=XT b;have w2:=XT (Xg b m);obtain⟨T1,hx,a1,a2,a3,a4,a5,a6,a7,a8,a9⟩:=eb (K:=K) (by_:=by_) (fst:=fst) (lp:=lp) (c1:=c1) (c2:=c2) (c3:=c3) (c4:=c4) (x:=x) (y:=y) (z:=z) (u:=u) (lo:=lo) (s24:=.p F) (s25:=.p (.int .i64 (.ofNat a.length))) (s26:=.p (.int .i64 (.ofNat i))) (v:=v) (n:=o.length) (B2:=OY s t w A) (B3:=T7 v o) (G:=G) f C R O hs h9;obtain⟨T2,G2,v',g,hw,⟨e1,e2,e3,e4,e5,e6,e7,e8,e9⟩,c⟩:=NK (K:=K) (by_:=by_) (fst:=fst) (l:=l) (x2:=H) (y2:=z2) (z2:=I) (u2:=J) (s24:=.p F) (s25:=.p (.int .i64 (.ofNat a.length))) (s26:=.p (.int .i64 (.ofNat i))) (b1:=Uj c1 c2 c3 c4 m) (b2:=OY s t w A) f L G V M lp K v o [] Y (by omega) hK;simp only[S5,Uj,OY,T7]at hx hw;obtain rfl:=Sl.Vr c;have P:=c.len;have ir:=fun(N:HF) (W:IntKind)=>c.idx (h:=N) (k:=W) (i:=0) (sz:=12) rfl (by simp[XI,S])
 have l1:0<X.length+1:=by omega
 have tn:(Xu n).take 8=Xu n:=Zd (by rw[Xc];omega);have dn:(Xu n).drop 8=[]:=Zm (by rw[Xc];omega);have B:=Rr S L;rw[decide_eq_false T]at B;apply Exists.intro;apply Exists.intro;refine⟨_,?_,c⟩;rw[Xb];simp(decide:=true)only[Xm,Xq,Vg,Vm,reduceIte,Nat.reduceEqDiff,Nat.reduceLeDiff,Nat.reduceAdd,x144_3,f,X5,Q,ip,f1,f2,f3,D,hx,a1,a2,a3,a4,a5,a6,a7,a8,a9,hw,e1,e2,e3,e4,e5,e6,e7,e8,e9,P,Wk,Xc,XI,k8,L,tk,ta,W5,We,Wg,Zq,Zk,Wl,Vp,U,h0,ir,l1,B,tn,S];rfl
theorem sub_eq {V W X Y:PL}{E:Xa}{K k v i:Nat}(f:E.mode=md)(h9:9<=K){lo by_ fst lp J c1 c2 c3 c4 t w A B x y z u z1 z2 z3 z4:PL}{l:Nat}(H:65535<=l){m a:List Nat}(Q:m.length=8)(N:a.length=8)(hs:∀e∈Xg a m,e<=65535){b:List (List PL)}(b0:Sl J b)(b3:b.length<1000000)(hi:b[i]? =some (x::y::z::u::mo a))
  (I:E.pure 64 [.agg [t,w,A,B],.agg [x,y,z,u]]=some (.agg [z1,z2,z3,z4])) {es q s:List (List PL)} (S:U9 E lo (Xg a m) es q ((V::W::X::Y::mo (Xg a m))::s)) (L:∀d∈es,d.length=12) (a0:Sl lp es) {o:List (List PL)} (b4:o.length+es.length<900000) (hK:es.length<K) (b5:q.length<=es.length)
  {r:Int} {Z r2 r3 r4:PL} (T:∀d∈s,d.length=12) (D:E.pure 157 [.agg [V,W,X,Y],.agg [z1,z2,z3,z4]]=some (.agg [Z,r2,r3,r4])) (R:E.pure 158 [.agg [Z,r2,r3,r4]]=some (.one (.int .i64 r))) (h0:Pc r (.ofNat 0)=false) (G:List Xz):
  ∃G' v' g,Xb E K 0 [1,4,6,10,11,24,25,26] x144_3 (k+1) ⟨[(1,.one (.p lp)),(4,.one (.ptr 0 0 0 0)),(6,.one (.ptr 1 0 0 0)),(10,.one (.ptr 2 0 0 0)),(11,.one (.own 3 v 0 o.length)),(24,.one (.p J)),(25,.one (.p (.int .i64 (.ofNat b.length)))),(26,.one (.p (.int .i64 (.ofNat i))))],S5 lo by_ l fst::Uj c1 c2 c3 c4 m::OY t w A B::T7 v o::G⟩=
   Xb E K 0 [1,4,6,10,11,24,25,26] x144_3 k ⟨[(1,.one (.p g)),(4,.one (.ptr 0 0 0 0)),(6,.one (.ptr 1 0 0 0)),(10,.one (.ptr 2 0 0 0)),(11,.one (.own 3 v' 0 (o.length+q.length+1))),(24,.one (.p J)),(25,.one (.p (.int .i64 (.ofNat b.length)))),(26,.one (.p (.int .i64 (.ofNat (i+1)))))],S5 lo by_ l fst::Uj c1 c2 c3 c4 m::OY t w A B::T7 v' ((o++q)++[Z::r2::r3::r4::mo (Xg a m)])::G'⟩/\Sl g s:=by
 have P:i<b.length:=(Zb.mp hi).1;have m8:=Q;have k8:=N;have C:(Xg a m).length=8:=by simp[Xg,Q,N]
 have tk:(Xu a).take 8=Xu a:=Zd (by rw[Xc];omega);have dk:(Xu a).drop 8=[]:=Zm (by rw[Xc];omega);have ta:(Xu (Xg a m)).take 8=Xu (Xg a m):=Zd (by rw[Xc];omega);have da:(Xu (Xg a m)).drop 8=[]:=Zm (by rw[Xc];omega);have ip:=fun(M:HF) (U:IntKind)=>b0.idx (h:=M) (k:=U) (sz:=12) hi (by simp[XI,k8])
 have f1:Xe .i64 (.ofNat (i+1))=.ofNat (i+1):=wrap_i64 (by omega);have f2:(o.length+q.length+1)*128<=lim:=by unfold lim;omega
 have f3:o.length+q.length+1<=9223372036854775807:=by omega
 have w1:=XT a;have w2:=XT (Xg a m);obtain⟨T1,hx,a1,a2,a3,a4,a5,a6,a7,a8,a9⟩:=eb (K:=K) (by_:=by_) (fst:=fst) (lp:=lp) (c1:=c1) (c2:=c2) (c3:=c3) (c4:=c4) (x:=x) (y:=y) (z:=z) (u:=u) (lo:=lo) (s24:=.p J) (s25:=.p (.int .i64 (.ofNat b.length))) (s26:=.p (.int .i64 (.ofNat i))) (v:=v) (n:=o.length) (B2:=OY t w A B) (B3:=T7 v o) (G:=G) f H Q N hs h9;obtain⟨T2,G2,v',g,hw,⟨e1,e2,e3,e4,e5,e6,e7,e8,e9⟩,j⟩:=NK (K:=K) (by_:=by_) (fst:=fst) (l:=l) (x2:=z1) (y2:=z2) (z2:=z3) (u2:=z4) (s24:=.p J) (s25:=.p (.int .i64 (.ofNat b.length))) (s26:=.p (.int .i64 (.ofNat i))) (b1:=Uj c1 c2 c3 c4 m) (b2:=OY t w A B) f C G S L lp K v o [] a0 (by omega) hK;simp only[S5,Uj,OY,T7]at hx hw;obtain rfl:=Sl.Vr j;have O:=j.len;have hn:=C;have ir:=fun(M:HF) (U:IntKind)=>j.idx (h:=M) (k:=U) (i:=0) (sz:=12) rfl (by simp[XI,hn])
 have l1:0<s.length+1:=by omega
 have tn:(Xu (Xg a m)).take 8=Xu (Xg a m):=Zd (by rw[Xc];omega);have dn:(Xu (Xg a m)).drop 8=[]:=Zm (by rw[Xc];omega);have F:=Rr C C;rw[decide_eq_true rfl]at F;have j1:¬(G.length+(G2.length+1)<=G.length):=by omega
 have s1:=VP (c:=V::W::X::Y::mo (Xg a m)) (es:=s) T;apply Exists.intro;apply Exists.intro;refine⟨.Xp s,?_,.Xp⟩;rw[Xb];simp(decide:=true)only[Xm,Xq,Vg,Vm,reduceIte,Nat.reduceEqDiff,Nat.reduceLeDiff,Nat.reduceAdd,x144_3,f,X5,P,ip,f1,f2,f3,I,hx,a1,a2,a3,a4,a5,a6,a7,a8,a9,hw,e1,e2,e3,e4,e5,e6,e7,e8,e9,O,Wk,Xc,XI,k8,C,tk,ta,W5,We,Wg,Zq,Zk,Wl,Vp,D,R,h0,ir,l1,F,s1,j1];rfl
theorem sub_zero {V W X Y:PL}{E:Xa}{K k v i:Nat}(f:E.mode=md)(h9:9<=K){lo by_ fst lp J c1 c2 c3 c4 t w A B x y z u z1 z2 z3 z4:PL}{l:Nat}(H:65535<=l){m a:List Nat}(Q:m.length=8)(N:a.length=8)(hs:∀e∈Xg a m,e<=65535){b:List (List PL)}(a0:Sl J b)(b0:b.length<1000000)(hi:b[i]? =some (x::y::z::u::mo a))
  (I:E.pure 64 [.agg [t,w,A,B],.agg [x,y,z,u]]=some (.agg [z1,z2,z3,z4])) {es q s:List (List PL)} (S:U9 E lo (Xg a m) es q ((V::W::X::Y::mo (Xg a m))::s)) (L:∀d∈es,d.length=12) (Z:Sl lp es) {o:List (List PL)} (b3:o.length+es.length<900000) (hK:es.length<K) (b4:q.length<=es.length)
  {r:Int} {r1 r2 r3 r4:PL} (T:∀d∈s,d.length=12) (D:E.pure 157 [.agg [V,W,X,Y],.agg [z1,z2,z3,z4]]=some (.agg [r1,r2,r3,r4])) (R:E.pure 158 [.agg [r1,r2,r3,r4]]=some (.one (.int .i64 r))) (h0:Pc r (.ofNat 0)=true) (G:List Xz):
  ∃G' v' g,Xb E K 0 [1,4,6,10,11,24,25,26] x144_3 (k+1) ⟨[(1,.one (.p lp)),(4,.one (.ptr 0 0 0 0)),(6,.one (.ptr 1 0 0 0)),(10,.one (.ptr 2 0 0 0)),(11,.one (.own 3 v 0 o.length)),(24,.one (.p J)),(25,.one (.p (.int .i64 (.ofNat b.length)))),(26,.one (.p (.int .i64 (.ofNat i))))],S5 lo by_ l fst::Uj c1 c2 c3 c4 m::OY t w A B::T7 v o::G⟩=
   Xb E K 0 [1,4,6,10,11,24,25,26] x144_3 k ⟨[(1,.one (.p g)),(4,.one (.ptr 0 0 0 0)),(6,.one (.ptr 1 0 0 0)),(10,.one (.ptr 2 0 0 0)),(11,.one (.own 3 v' 0 (o.length+q.length))),(24,.one (.p J)),(25,.one (.p (.int .i64 (.ofNat b.length)))),(26,.one (.p (.int .i64 (.ofNat (i+1)))))],S5 lo by_ l fst::Uj c1 c2 c3 c4 m::OY t w A B::T7 v' ((o++q))::G'⟩/\Sl g s:=by
 have P:i<b.length:=(Zb.mp hi).1;have m8:=Q;have k8:=N;have C:(Xg a m).length=8:=by simp[Xg,Q,N]
 have tk:(Xu a).take 8=Xu a:=Zd (by rw[Xc];omega);have dk:(Xu a).drop 8=[]:=Zm (by rw[Xc];omega);have ta:(Xu (Xg a m)).take 8=Xu (Xg a m):=Zd (by rw[Xc];omega);have da:(Xu (Xg a m)).drop 8=[]:=Zm (by rw[Xc];omega);have ip:=fun(M:HF) (U:IntKind)=>a0.idx (h:=M) (k:=U) (sz:=12) hi (by simp[XI,k8])
 have f1:Xe .i64 (.ofNat (i+1))=.ofNat (i+1):=wrap_i64 (by omega);have f2:(o.length+q.length+1)*128<=lim:=by unfold lim;omega
 have f3:o.length+q.length+1<=9223372036854775807:=by omega
 have w1:=XT a;have w2:=XT (Xg a m);obtain⟨T1,hx,a1,a2,a3,a4,a5,a6,a7,a8,a9⟩:=eb (K:=K) (by_:=by_) (fst:=fst) (lp:=lp) (c1:=c1) (c2:=c2) (c3:=c3) (c4:=c4) (x:=x) (y:=y) (z:=z) (u:=u) (lo:=lo) (s24:=.p J) (s25:=.p (.int .i64 (.ofNat b.length))) (s26:=.p (.int .i64 (.ofNat i))) (v:=v) (n:=o.length) (B2:=OY t w A B) (B3:=T7 v o) (G:=G) f H Q N hs h9;obtain⟨T2,G2,v',g,hw,⟨e1,e2,e3,e4,e5,e6,e7,e8,e9⟩,j⟩:=NK (K:=K) (by_:=by_) (fst:=fst) (l:=l) (x2:=z1) (y2:=z2) (z2:=z3) (u2:=z4) (s24:=.p J) (s25:=.p (.int .i64 (.ofNat b.length))) (s26:=.p (.int .i64 (.ofNat i))) (b1:=Uj c1 c2 c3 c4 m) (b2:=OY t w A B) f C G S L lp K v o [] Z (by omega) hK;simp only[S5,Uj,OY,T7]at hx hw;obtain rfl:=Sl.Vr j;have O:=j.len;have hn:=C;have ir:=fun(M:HF) (U:IntKind)=>j.idx (h:=M) (k:=U) (i:=0) (sz:=12) rfl (by simp[XI,hn])
 have l1:0<s.length+1:=by omega
 have tn:(Xu (Xg a m)).take 8=Xu (Xg a m):=Zd (by rw[Xc];omega);have dn:(Xu (Xg a m)).drop 8=[]:=Zm (by rw[Xc];omega);have F:=Rr C C;rw[decide_eq_true rfl]at F;have j1:¬(G.length+(G2.length+1)<=G.length):=by omega
 have s1:=VP (c:=V::W::X::Y::mo (Xg a m)) (es:=s) T;apply Exists.intro;apply Exists.intro;refine⟨.Xp s,?_,.Xp⟩;rw[Xb];simp(decide:=true)only[Xm,Xq,Vg,Vm,reduceIte,Nat.reduceEqDiff,Nat.reduceLeDiff,Nat.reduceAdd,x144_3,f,X5,P,ip,f1,I,hx,a1,a2,a3,a4,a5,a6,a7,a8,a9,hw,e1,e2,e3,e4,e5,e6,e7,e8,e9,O,Wk,Xc,XI,k8,C,tk,ta,We,Wg,Zk,D,R,h0,ir,l1,F,s1,j1];rfl
inductive gT (E:Xa)(lo:PL)(d:List PL)(m:List Nat):List (List PL)->List (List PL)->List (List PL)->List (List PL)->Prop
 |nil {es:List (List PL)}:gT E lo d m es [] [] es
 |none {x y z u z1 z2 z3 z4:PL} {kk:List Nat} {es os qs pre rest:List (List PL)} {r:Int} (hk:kk.length=8) (hs:∀e∈Xg kk m,e<=65535) (hmul:E.pure 64 [.agg d,.agg [x,y,z,u]]=some (.agg [z1,z2,z3,z4])) (hwh:U9 E lo (Xg kk m) es os [])
   (hsg:E.pure 158 [.agg [z1,z2,z3,z4]]=some (.one (.int .i64 r))) (h0:Pc r (.ofNat 0)=false) (h:gT E lo d m [] qs pre rest):gT E lo d m es ((x::y::z::u::mo kk)::qs) (os++(z1::z2::z3::z4::mo (Xg kk m))::pre) rest
 |diff {x y z u z1 z2 z3 z4 q1 q2 q3 q4:PL} {kk n:List Nat} {es os rs qs pre rest:List (List PL)} {r:Int} (hk:kk.length=8) (hs:∀e∈Xg kk m,e<=65535) (hmul:E.pure 64 [.agg d,.agg [x,y,z,u]]=some (.agg [z1,z2,z3,z4])) (hwh:U9 E lo (Xg kk m) es os ((q1::q2::q3::q4::mo n)::rs))
   (hn:n.length=8) (hne:n≠Xg kk m) (hsg:E.pure 158 [.agg [z1,z2,z3,z4]]=some (.one (.int .i64 r))) (h0:Pc r (.ofNat 0)=false) (h:gT E lo d m ((q1::q2::q3::q4::mo n)::rs) qs pre rest):
   gT E lo d m es ((x::y::z::u::mo kk)::qs) (os++(z1::z2::z3::z4::mo (Xg kk m))::pre) rest
 |eq {x y z u z1 z2 z3 z4 q1 q2 q3 q4 r1 r2 r3 r4:PL} {kk:List Nat} {es os rs qs pre rest:List (List PL)} {r:Int} (hk:kk.length=8) (hs:∀e∈Xg kk m,e<=65535) (hmul:E.pure 64 [.agg d,.agg [x,y,z,u]]=some (.agg [z1,z2,z3,z4])) (hwh:U9 E lo (Xg kk m) es os ((q1::q2::q3::q4::mo (Xg kk m))::rs))
   (hadd:E.pure 157 [.agg [q1,q2,q3,q4],.agg [z1,z2,z3,z4]]=some (.agg [r1,r2,r3,r4])) (hsg:E.pure 158 [.agg [r1,r2,r3,r4]]=some (.one (.int .i64 r))) (h0:Pc r (.ofNat 0)=false) (h:gT E lo d m rs qs pre rest):
   gT E lo d m es ((x::y::z::u::mo kk)::qs) (os++(r1::r2::r3::r4::mo (Xg kk m))::pre) rest
 |zero {x y z u z1 z2 z3 z4 q1 q2 q3 q4 r1 r2 r3 r4:PL} {kk:List Nat} {es os rs qs pre rest:List (List PL)} {r:Int} (hk:kk.length=8) (hs:∀e∈Xg kk m,e<=65535) (hmul:E.pure 64 [.agg d,.agg [x,y,z,u]]=some (.agg [z1,z2,z3,z4])) (hwh:U9 E lo (Xg kk m) es os ((q1::q2::q3::q4::mo (Xg kk m))::rs))
   (hadd:E.pure 157 [.agg [q1,q2,q3,q4],.agg [z1,z2,z3,z4]]=some (.agg [r1,r2,r3,r4])) (hsg:E.pure 158 [.agg [r1,r2,r3,r4]]=some (.one (.int .i64 r))) (h0:Pc r (.ofNat 0)=true) (h:gT E lo d m rs qs pre rest):
   gT E lo d m es ((x::y::z::u::mo kk)::qs) (os++pre) rest
theorem U9.app {E:Xa}{e:PL}{mm:List Nat}{a b c:List (List PL)}(h:U9 E e mm a b c):a=b++c:=by
 induction h with
 |xD=>rfl
 |stop=>rfl
 |go g f h d=>rw[d];rfl
theorem CV {E:Xa}{K:Nat}(W:E.mode=md)(h9:9<=K){lo by_ fst lq c1 c2 c3 c4 d1 d2 d3 d4:PL}{l:Nat}(H:65535<=l){m:List Nat}(hm:m.length=8){t:List (List PL)}(Z:Sl lq t)(a2:t.length<400000){F Y a rest:List (List PL)}(h:gT E lo [d1,d2,d3,d4] m F Y a rest):
  (∀d∈F,d.length=12)->∀(R:PL) (i k v:Nat) (o:List (List PL)) (G:List Xz),Sl R F->t.drop i=Y->i+Y.length=t.length->o.length+F.length+Y.length<900000->F.length<K->Y.length<k->
  ∃j T S g,Xb E K 0 [1,4,6,10,11,24,25,26] x144_3 k ⟨[(1,.one (.p R)),(4,.one (.ptr 0 0 0 0)),(6,.one (.ptr 1 0 0 0)),(10,.one (.ptr 2 0 0 0)),(11,.one (.own 3 v 0 o.length)),(24,.one (.p lq)),(25,.one (.p (.int .i64 (.ofNat t.length)))),(26,.one (.p (.int .i64 (.ofNat i))))],S5 lo by_ l fst::Uj c1 c2 c3 c4 m::OY d1 d2 d3 d4::T7 v o::G⟩=
   some (.exit 0,⟨j,S5 lo by_ l fst::Uj c1 c2 c3 c4 m::OY d1 d2 d3 d4::T7 S (o++a)::T⟩)/\(Xh j 1=some (.one (.p g))/\Xh j 11=some (.one (.own 3 S 0 (o++a).length)))/\Sl g rest/\(∀d∈rest,d.length=12):=by
 induction h with
 |@nil F=>
  intro b R i k v o G sp s V ho hK hk;obtain⟨k,rfl⟩:∃X,k=X+1:=⟨k-1,by omega⟩;have a0:¬i<t.length:=by simp at V;omega
  have :∃j,Xb E K 0 [1,4,6,10,11,24,25,26] x144_3 (k+1) ⟨[(1,.one (.p R)),(4,.one (.ptr 0 0 0 0)),(6,.one (.ptr 1 0 0 0)),(10,.one (.ptr 2 0 0 0)),(11,.one (.own 3 v 0 o.length)),(24,.one (.p lq)),(25,.one (.p (.int .i64 (.ofNat t.length)))),(26,.one (.p (.int .i64 (.ofNat i))))],S5 lo by_ l fst::Uj c1 c2 c3 c4 m::OY d1 d2 d3 d4::T7 v o::G⟩=
   some (.exit 0,⟨j,S5 lo by_ l fst::Uj c1 c2 c3 c4 m::OY d1 d2 d3 d4::T7 v o::G⟩)/\(Xh j 1=some (.one (.p R))/\Xh j 11=some (.one (.own 3 v 0 o.length))):=by
   apply VE
   ·rw[Xb];simp only[Xm,Xq,reduceIte,Nat.reduceEqDiff,x144_3,a0];rfl
   ·refine⟨?_,?_⟩<;>simp only[Xm,reduceIte,Nat.reduceEqDiff]
  obtain⟨j,U,q⟩:=this;exact⟨j,G,v,R,by rw[ZS];exact U,by rw[ZS];exact q,sp,b⟩
 |@none x y z u M N O P B F c Y a rest r hk hs e f A h0 h ih=>
  intro b R i k v o G sp s V ho hK w;obtain⟨k,rfl⟩:∃X,k=X+1:=⟨k-1,by omega⟩;simp only[Zi]at V ho w;obtain⟨gp,dp⟩:=Xi s;have Q:=f.app;have el:F.length=c.length+0:=by rw[Q];simp
  obtain⟨G1,v1,C,U,D⟩:=AP (rs:=[]) (k:=k) (v:=v) (by_:=by_) (fst:=fst) (c1:=c1) (c2:=c2) (c3:=c3) (c4:=c4) (o:=o) W h9 H hm hk hs Z (by omega) gp e f b sp (by omega) hK (by omega) A h0 G;obtain⟨j,T,S,g,q,I,g4⟩:=ih (fun _ s=>by cases s) C (i+1) k v1 (o++c++[M::N::O::P::mo (Xg B m)]) G1 D dp (by omega) (by simp;omega) (by simp;omega) (by omega);rw[show(o++c++[M::N::O::P::mo (Xg B m)]).length=o.length+c.length+1 by simp;omega]at q;rw[show o++c++[M::N::O::P::mo (Xg B m)]++a=o++(c++(M::N::O::P::mo (Xg B m))::a)by simp]at q I;exact⟨j,T,S,g,U.trans q,I,g4⟩
 |@diff x y z u M N O P q1 q2 q3 q4 B n F c rs Y a rest r hk hs e f hn a1 A h0 h ih=>
  intro b R i k v o G sp s V ho hK w;obtain⟨k,rfl⟩:∃X,k=X+1:=⟨k-1,by omega⟩;simp only[Zi]at V ho w;obtain⟨gp,dp⟩:=Xi s;have Q:=f.app;have el:F.length=c.length+(rs.length+1):=by rw[Q];simp
  obtain⟨G1,v1,C,U,D⟩:=xA (k:=k) (v:=v) (by_:=by_) (fst:=fst) (c1:=c1) (c2:=c2) (c3:=c3) (c4:=c4) (o:=o) W h9 H hm hk hs Z (by omega) gp e f b sp (by omega) hK (by omega) hn a1 A h0 G;obtain⟨j,T,S,g,q,I,g4⟩:=ih (fun d s=>b d (by rw[Q];exact List.mem_append_right _ s)) C (i+1) k v1 (o++c++[M::N::O::P::mo (Xg B m)]) G1 D dp (by omega) (by simp;omega) (by simp;omega) (by omega);rw[show(o++c++[M::N::O::P::mo (Xg B m)]).length=o.length+c.length+1 by simp;omega]at q;rw[show o++c++[M::N::O::P::mo (Xg B m)]++a=o++(c++(M::N::O::P::mo (Xg B m))::a)by simp]at q I;exact⟨j,T,S,g,U.trans q,I,g4⟩
 |@eq x y z u M N O P q1 q2 q3 q4 r1 r2 r3 r4 B F c rs Y a rest r hk hs e f J A h0 h ih=>
  intro b R i k v o G sp s V ho hK w;obtain⟨k,rfl⟩:∃X,k=X+1:=⟨k-1,by omega⟩;simp only[Zi]at V ho w;obtain⟨gp,dp⟩:=Xi s;have Q:=f.app;have el:F.length=c.length+(rs.length+1):=by rw[Q];simp
  have L:∀d∈rs,d.length=12:=fun d s=>b d (by rw[Q];exact List.mem_append_right _ (Zc _ s))
  obtain⟨G1,v1,C,U,D⟩:=sub_eq (k:=k) (v:=v) (by_:=by_) (fst:=fst) (c1:=c1) (c2:=c2) (c3:=c3) (c4:=c4) (o:=o) W h9 H hm hk hs Z (by omega) gp e f b sp (by omega) hK (by omega) L J A h0 G;obtain⟨j,T,S,g,q,I,g4⟩:=ih L C (i+1) k v1 (o++c++[r1::r2::r3::r4::mo (Xg B m)]) G1 D dp (by omega) (by simp;omega) (by omega) (by omega);rw[show(o++c++[r1::r2::r3::r4::mo (Xg B m)]).length=o.length+c.length+1 by simp;omega]at q;rw[show o++c++[r1::r2::r3::r4::mo (Xg B m)]++a=o++(c++(r1::r2::r3::r4::mo (Xg B m))::a)by simp]at q I;exact⟨j,T,S,g,U.trans q,I,g4⟩
 |@zero x y z u M N O P q1 q2 q3 q4 r1 r2 r3 r4 B F c rs Y a rest r hk hs e f J A h0 h ih=>
  intro b R i k v o G sp s V ho hK w;obtain⟨k,rfl⟩:∃X,k=X+1:=⟨k-1,by omega⟩;simp only[Zi]at V ho w;obtain⟨gp,dp⟩:=Xi s;have Q:=f.app;have el:F.length=c.length+(rs.length+1):=by rw[Q];simp
  have L:∀d∈rs,d.length=12:=fun d s=>b d (by rw[Q];exact List.mem_append_right _ (Zc _ s))
  obtain⟨G1,v1,C,U,D⟩:=sub_zero (k:=k) (v:=v) (by_:=by_) (fst:=fst) (c1:=c1) (c2:=c2) (c3:=c3) (c4:=c4) (o:=o) W h9 H hm hk hs Z (by omega) gp e f b sp (by omega) hK (by omega) L J A h0 G;obtain⟨j,T,S,g,q,I,g4⟩:=ih L C (i+1) k v1 (o++c) G1 D dp (by omega) (by simp;omega) (by omega) (by omega);rw[show(o++c).length=o.length+c.length by simp]at q;rw[Zq]at q I;exact⟨j,T,S,g,U.trans q,I,g4⟩
end Go.Proofs.YtidginchkjhobaaGreat
namespace Go.Num
def Vt (o:List (List Int))(mm:List Nat):List Qm->List Qm×List Qm
 |[]=>([],[])
 |s::p=>if WC o s.2 mm=.ofNat 1 then(s::(Vt o mm p).1,(Vt o mm p).2)else([],s::p)
def Tq (o:List (List Int))(c:Rat)(m:List Nat):List Qm->List Qm->List Qm
 |p,[]=>p
 |p,t::q=>match Vt o (Xg t.2 m) p with
  |(os,[])=>os++(c*t.1,Xg t.2 m)::Tq o c m [] q
  |(os,s::rs)=>if s.2=Xg t.2 m then(if s.1+c*t.1=0 then os++Tq o c m rs q else os++(s.1+c*t.1,Xg t.2 m)::Tq o c m rs q)else os++(c*t.1,Xg t.2 m)::Tq o c m (s::rs) q
end Go.Num
namespace Go.Proofs.YtidginchkjhobaaGreat
open Go.Ev Go.Num
theorem iO {B:Xs}(v:Std B){z:PL}{o:List (List Int)}(A:SG z o)(w:V3 o)(g:o.length<1000000){mm:List Nat}(f:XE mm):∀{u:List (List PL)} {p:List Qm},X4 u p->∃t j,(X1 B fun E _=>U9 E z mm u t j)/\X4 t (Vt o mm p).1/\X4 j (Vt o mm p).2
 |_,_,.nil=>⟨[],[],X1.of fun _ _=>.xD,.nil,.nil⟩
 |_,_,.cons (x:=c) (y:=s) m h=>by
  have r:=m;obtain⟨n,a,d,b,rfl,q,l⟩:=r;have k:=OA v A w l f g;unfold Vt;by_cases i:WC o s.2 mm=.ofNat 1
  ·rw[if_pos i];rw[i]at k;obtain⟨t,j,C,D,F⟩:=iO v A w g f h;exact⟨_,j,(C.and k.Xj).mono fun E K ⟨e1,e2⟩=>.go l.1 e2 e1,.cons m D,F⟩
  ·rw[if_neg i];refine⟨[],_,k.Xj.mono fun E K e=>.stop l.1 e ?_,.nil,.cons m h⟩;rcases Vy o s.2 mm with h2|h2|h2
   ·exact absurd h2 i
   ·rw[h2];rfl
   ·rw[h2];rfl
theorem Sz.sub {a b:List Qm}(h:Sz a)(c:∀t∈b,t∈a):Sz b:=fun t d=>h t (c t d)
theorem QP (o:List (List Int))(mm:List Nat):∀p,(Vt o mm p).1++(Vt o mm p).2=p
 |[]=>rfl
 |s::p=>by
  unfold Vt;split
  ·rw[ZI,QP o mm p]
  ·rfl
theorem dO {B:Xs}(j:Std B){lo:PL}{o:List (List Int)}(S:SG lo o)(O:V3 o)(g:o.length<1000000){d:List PL}{c:Rat}(M:RP d c)(L:Sq c)(I:c≠0){m:List Nat}(W:XE m):∀{qs:List (List PL)} {q:List Qm},X4 qs q->Sz q->(∀t∈q,XE (Xg t.2 m)/\t.1≠0/\Sq (c*t.1))->
  ∀{es:List (List PL)} {p:List Qm},X4 es p->Sz p->∃f rest,(X1 B fun E _=>gT E lo d m es qs f rest)/\X4 (f++rest) (Tq o c m p q)
 |_,_,.nil,_,_,es,p,hp,_=>⟨[],es,X1.of fun _ _=>.nil,hp⟩
 |_,_,.cons (x:=x) (y:=t) (ys:=q) ht h,hz,hq,es,p,hp,zp=>by
  obtain⟨i,h2,h3⟩:=hq t (Ze ..);have A:∀t∈q,XE (Xg t.2 m)/\t.1≠0/\Sq (c*t.1):=fun u Z=>hq u (Zc _ Z)
  obtain⟨os,rs,J,F,g3⟩:=iO j S O g i hp;have k:=QP o (Xg t.2 m) p;have Y:=ht;obtain⟨n,a,e,b,rfl,qq,N⟩:=Y;obtain⟨w,Q,H⟩:=PG j M qq L hz.head;have U:c*t.1≠0:=fun h=>(Rat.mul_eq_zero.1 h).elim I h2
  have k3:=Oy j H;have k0:=uX U;obtain⟨n1,a1,d1,b1,rfl⟩:=H.len;unfold Tq;generalize a0:Vt o (Xg t.2 m) p=sp at F g3 k;obtain⟨P,R⟩:=sp;cases g3 with
  |nil=>
   obtain⟨f,rest,C,D⟩:=dO j S O g M L I W h hz.tail A (es:=[]) (p:=[]) .nil Sz.nil;refine⟨_,rest,(J.and (Q.Xj.and (k3.Xj.and C))).mono fun E K ⟨e1,e2,l,z⟩=>.none N.1 i.2 e2 e1 l k0 z,?_⟩;rw[Zq,ZI];exact F.append (.cons (W9.mk H i) D)
  |@cons r s rs R hr hR=>
   have zR:Sz (s::R):=zp.sub fun u Z=>by rw[<-k];exact List.mem_append_right _ Z
   have X:=hr;obtain⟨n2,a2,d2,b2,rfl,q2,V⟩:=X;show∃f rest,_/\X4 (f++rest) (if s.2=Xg t.2 m then(if s.1+c*t.1=0 then P++Tq o c m R _ else P++(s.1+c*t.1,Xg t.2 m)::Tq o c m R _)else P++(c*t.1,Xg t.2 m)::Tq o c m (s::R) _);by_cases G:s.2=Xg t.2 m
   ·rw[if_pos G];obtain⟨s1,s2⟩:=s;simp only at G;subst G;obtain⟨v,v1,v2⟩:=fj j q2 H zR.head h3;have v3:=Oy j v2;obtain⟨n3,a3,d3,b3,rfl⟩:=v2.len;obtain⟨f,rest,C,D⟩:=dO j S O g M L I W h hz.tail A hR zR.tail;by_cases h0:s1+c*t.1=0
    ·rw[if_pos h0];simp only[h0]at v3;refine⟨_,rest,(J.and (Q.Xj.and (v1.Xj.and (v3.Xj.and C)))).mono fun E K ⟨e1,e2,l,z,T⟩=>.zero N.1 i.2 e2 e1 l z EM T,?_⟩;rw[Zq];exact F.append D
    ·rw[if_neg h0];refine⟨_,rest,(J.and (Q.Xj.and (v1.Xj.and (v3.Xj.and C)))).mono fun E K ⟨e1,e2,l,z,T⟩=>.eq N.1 i.2 e2 e1 l z (uX h0) T,?_⟩;rw[Zq,ZI];exact F.append (.cons (W9.mk v2 i) D)
   ·rw[if_neg G];obtain⟨f,rest,C,D⟩:=dO j S O g M L I W h hz.tail A (.cons hr hR) zR;refine⟨_,rest,(J.and (Q.Xj.and (k3.Xj.and C))).mono fun E K ⟨e1,e2,l,z⟩=>.diff N.1 i.2 e2 e1 V.1 G l k0 z,?_⟩;rw[Zq,ZI];exact F.append (.cons (W9.mk H i) D)
theorem NQ (o:List (List Int))(c:Rat)(m:List Nat):∀(q p:List Qm),(Tq o c m p q).length<=p.length+q.length
 |[],p=>by simp[Tq]
 |t::q,p=>by
  have a:=congrArg List.length (QP o (Xg t.2 m) p);rw[Zk]at a;unfold Tq;generalize Vt o (Xg t.2 m) p=sp at a;obtain⟨P,R⟩:=sp;cases R with
  |nil=>
   have:=NQ o c m q [];simp only[Zk,Zi,Zu]at a this⊢;omega
  |cons s R=>
   have d:=NQ o c m q R;have b:=NQ o c m q (s::R);simp only[Zi]at a b⊢;split
   ·split<;>simp only[Zk,Zi]<;>omega
   ·simp only[Zk,Zi];omega
theorem kz {B:Xs}(v:Std B){P by_ fst:PL}{l:Nat}(j:65535<=l){o:List (List Int)}(so:SG P o)(ho:V3 o)(C:o.length<1000000){R:List PL}{s:Qm}(hs:W9 R s)(U:Sq s.1)(s0:s.1≠0){lp Q:PL}{p q:List Qm}(m:PQ lp p)(zp:Sz p)(x:PQ Q q)(zq:Sz q)
  (F:∀t∈q,XE (Xg t.2 s.2)/\t.1≠0/\Sq (-s.1*t.1)) (l1:p.length<400000) (l2:q.length<400000):
  ∃g,Xx B 144 [.agg [P,by_,.int .i64 (.ofNat l),fst],.one lp,.agg R,.one Q] (.XZ [.one (.Xp g),.one (.bool true)])/\X4 g (Tq o (-s.1) s.2 p q):=by
 obtain⟨i,S,m⟩:=m;obtain⟨u,T,x⟩:=x;have V:=m.length;have W:=x.length;obtain⟨I,J,c3,c4,rfl,w,A⟩:=hs;obtain⟨d,h1,M⟩:=fh v w U;have n0: -s.1≠0:=fun h=>s0 (by rw[<-Rat.neg_neg s.1,h];rfl)
 obtain⟨f,rest,g1,L⟩:=dO v so ho C M U.neg n0 A x zq F m zp;obtain⟨n,a,e,b,rfl⟩:=M.len;refine⟨f++rest,Xx.of (v.Wa _ _ rfl) ((g1.and (h1.Xj.and (v.Xj.and (X1.ge (i.length+u.length+10))))).mono fun E K ⟨e1,e2,k,hK⟩=> ?_),L⟩;obtain⟨T',G',v',a1,H,⟨k2,O⟩,k4,k5⟩:=CV (K:=K) (by_:=by_) (fst:=fst) (c1:=.bool I) (c2:=J) (c3:=.bool c3) (c4:=c4) k (by omega) j A.1 T (by omega) e1 (fun d z=>R4.len (X4.ax m d z)) lp 0 K 0 [] [] S rfl (by omega) (by simp;omega) (by omega) (by omega);rw[ZF]at H O;have m8:=A.1;have tm:(Xu s.2).take 8=Xu s.2:=Zd (by rw[Xc];omega);have X:Xe .i64 (.ofNat (i.length+u.length))=.ofNat (i.length+u.length):=wrap_i64 (by omega);have Y:128*(i.length+u.length)<=lim:=by unfold lim;omega
 have Z:i.length+u.length<=9223372036854775807:=by omega
 have w1:=XT s.2;have y:=fun h=>k4.chunks (h:=h)
 have D:=L.length;have a0:=NQ o (-s.1) s.2 q p;rw[Zk]at D;have f3:(f.length+rest.length)*128<=lim:=by unfold lim;omega
 have f4:f.length+rest.length<=9223372036854775807:=by omega
 have f5:(rest.map (·.map DL.p)).all (fun c=>decide (c.length=12))=true:=by
  rw[ZW];intro c w;simp only[ZQ]at w;obtain⟨d,z,rfl⟩:=w;simp[k5 d z]
 have f6:(rest.map (·.map DL.p)).length=rest.length:=by simp
 have G:=VA (f++rest) (Zh _);have N:=fun h=>VK 5 h (f++rest)
 have r:=yF f rest;rw[Zk]at G;simp only[Zu,S5,Uj,OY,T7,pc,ZE]at H;simp only[pc]at G N r;simp only[Xm,Xq,Vg,reduceIte,Nat.reduceEqDiff,Nat.reduceLeDiff,Nat.reduceAdd,Zt,x144,S.len,T.len,k,X5,Wk,Xc,m8,e2,X,Y,Z,H,k2,O,y,f3,f4,f5,f6,r,G,N,ZP,Zk,Zh]
end Go.Proofs.YtidginchkjhobaaGreat
