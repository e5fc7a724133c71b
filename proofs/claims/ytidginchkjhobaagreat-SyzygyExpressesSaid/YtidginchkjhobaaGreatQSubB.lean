/- Division: subtract, the rounds over the terms of a divisor (written by gen_qsub3.py). -/
import Derived.Test.YtidginchkjhobaaGreatQSub
set_option maxHeartbeats 16000000
set_option maxRecDepth 100000
namespace Go.Ev
open Go.Proofs.YtidginchkjhobaaGreat
theorem U3 {m n}(a:m.length=8)(c:n.length=8):US false .i64 8 [.agg (Xu m),.agg (Xu n)]=some ⟨La4 (.bool (decide (m=n))),[],[],[]⟩:=by
 have b:Nat.beq (Xu m).length 8=true:=by rw[Xc,a];rfl
 simp_all [US,Vk.pure,UA]
theorem ic {E}{K}(c:E.mode=md){lo by_ fst lp c1 c2 c3 c4 x y z u}{s24 s25 s26}{l v n}(a:65535<=l){B2 B3}{G}{m b}(t:m.length=8)(s:b.length=8)(f:∀e∈Xg b m,e<=65535){k}(A:9<=k):
  ∃d,Xb E K 0 [1,4,6,10,11,13,24,25,26,30] x144_1 k ⟨[(1,La4 lp),(4,.one (.ptr 0 0 0 0)),(6,.one (.ptr 1 0 0 0)),(10,.one (.ptr 2 0 0 0)),(11,.one (.own 3 v 0 n)),(13,.one (.ptr (G.length+1+1+1+1) 0 0 0)),(24,.one s24),(25,.one s25),(26,.one s26),(30,La1 0)],RT lo by_ l fst::UO c1 c2 c3 c4 m::B2::B3::(G++[UO x y z u b])⟩=
   some (.exit 2,⟨d,RT lo by_ l fst::UO c1 c2 c3 c4 m::B2::B3::(G++[UO x y z u (Xg b m)])⟩)/\q9 d lp v n (G.length+1+1+1+1) s24 s25 s26:=by
 obtain⟨B,C,D,F,H,I,J,L,rfl⟩:=eight s;obtain⟨M,m2,N,O,P,Q,R,S,rfl⟩:=eight t;obtain⟨k,rfl⟩:∃w,k=w+9:=⟨k-9,by omega⟩;simp only[Xg,Zz,ZL,Zk,ZQ,or_false,forall_eq_or_imp,forall_eq]at f;obtain⟨h0,g,h,i,j,o,q,r⟩:=f;exact EZ c a h0 g h i j o q r
theorem Gn {E:Xa}{K k v i:Nat}(f:E.mode=md)(h9:9<=K){lo by_ fst lp C c1 c2 c3 c4 q s t w x y z u F z2 H I:PL}{l:Nat}(A:65535<=l){m b:P'}(O:m.length=8)(L:b.length=8)(hs:∀e∈Xg b m,e<=65535){a:Z'}(S:Sl C a)(V:a.length<1000000)(W:a[i]? =some (x::y::z::u::mo b))
  (B:E.pure 64 [.agg [q,s,t,w],.agg [x,y,z,u]]=some (.agg [F,z2,H,I])) {g j rs:Z'} (Q:TO E lo (Xg b m) g j []) (J:∀d∈g,d.length=12) (R:Sl lp g) {o:Z'} (a0:o.length+g.length<900000) (hK:g.length<K) (b0:j.length<=g.length)
  {r:Int} (P:E.pure 158 [.agg [F,z2,H,I]]=some (.one (.int .i64 r))) (h0:Nr r (.ofNat 0)=false) (G:V'):
  ∃G' T c,Xb E K 0 [1,4,6,10,11,24,25,26] x144_3 (k+1) ⟨[(1,La4 lp),(4,.one (.ptr 0 0 0 0)),(6,.one (.ptr 1 0 0 0)),(10,.one (.ptr 2 0 0 0)),(11,.one (.own 3 v 0 o.length)),(24,La4 C),(25,La1 a.length),(26,La1 i)],RT lo by_ l fst::UO c1 c2 c3 c4 m::aH q s t w::Rp v o::G⟩=
   Xb E K 0 [1,4,6,10,11,24,25,26] x144_3 k ⟨[(1,La4 c),(4,.one (.ptr 0 0 0 0)),(6,.one (.ptr 1 0 0 0)),(10,.one (.ptr 2 0 0 0)),(11,.one (.own 3 T 0 (o.length+j.length+1))),(24,La4 C),(25,La1 a.length),(26,La1 (i+1))],RT lo by_ l fst::UO c1 c2 c3 c4 m::aH q s t w::Rp T ((o++j)++[F::z2::H::I::mo (Xg b m)])::G'⟩/\Sl c []:=by
 have N:i<a.length:=(Zg.mp W).1;have m8:=O;have Z:=L;have U:(Xg b m).length=8:=by simp[Xg,O,L]
 have tk:(Xu b).take 8=Xu b:=Ze (by rw[Xc];omega);have dk:(Xu b).drop 8=[]:=Zo (by rw[Xc];omega);have ta:(Xu (Xg b m)).take 8=Xu (Xg b m):=Ze (by rw[Xc];omega);have da:(Xu (Xg b m)).drop 8=[]:=Zo (by rw[Xc];omega);have ip:=fun(hh:HF) (kd:IntKind)=>S.idx (h:=hh) (k:=kd) (sz:=12) W (by simp[XI,Z])
 have f1:Xd .i64 (.ofNat (i+1))=.ofNat (i+1):=wrap_i64 (by omega);have f2:(o.length+j.length+1)*128<=lim:=by unfold lim;omega
 have f3:o.length+j.length+1<=9223372036854775807:=by omega
 have w1:=X0 b;have w2:=X0 (Xg b m);obtain⟨T1,Y,a1,a2,a3,a4,a5,a6,a7,a8,a9⟩:=ic (K:=K) (by_:=by_) (fst:=fst) (lp:=lp) (c1:=c1) (c2:=c2) (c3:=c3) (c4:=c4) (x:=x) (y:=y) (z:=z) (u:=u) (lo:=lo) (s24:=.p C) (s25:=.p (La0 a.length)) (s26:=.p (La0 i)) (v:=v) (n:=o.length) (B2:=aH q s t w) (B3:=Rp v o) (G:=G) f A O L hs h9;obtain⟨T2,G2,T,c,X,⟨e1,e2,e3,e4,e5,e6,e7,e8,e9⟩,D⟩:=bJ (K:=K) (by_:=by_) (fst:=fst) (l:=l) (x2:=F) (y2:=z2) (z2:=H) (u2:=I) (s24:=.p C) (s25:=.p (La0 a.length)) (s26:=.p (La0 i)) (b1:=UO c1 c2 c3 c4 m) (b2:=aH q s t w) f U G Q J lp K v o [] R (by omega) hK;simp only[RT,UO,aH,Rp]at Y X;have M:=D.len;apply Exists.intro;apply Exists.intro;refine⟨c,?_,D⟩;rw[Xb];simp+decide only[Xo,Xs,VD,Vv,reduceIte,Nat.reduceEqDiff,Nat.reduceLeDiff,Nat.reduceAdd,x144_3,f,X3,N,ip,f1,f2,f3,B,Y,a1,a2,a3,a4,a5,a6,a7,a8,a9,X,e1,e2,e3,e4,e5,e6,e7,e8,e9,M,Wj,Xc,Z,U,tk,ta,VM,Wk,Wp,Zp,Zn,WB,VR,P,h0];rfl
theorem CN {q1 q2 q3 q4}{n}{E}{K k v i}(f:E.mode=md)(h9:9<=K){lo by_ fst lp F c1 c2 c3 c4 s t w A x y z u H z2 I J}{l}(C:65535<=l){m b}(R:m.length=8)(O:b.length=8)(hs:∀e∈Xg b m,e<=65535){a}(Z:Sl F a)(a0:a.length<1000000)(hi:a[i]? =some (x::y::z::u::mo b))
  (D:E.pure 64 [.agg [s,t,w,A],.agg [x,y,z,u]]=some (.agg [H,z2,I,J])) {j q X} (V:TO E lo (Xg b m) j q ((q1::q2::q3::q4::mo n)::X)) (M:∀d∈j,d.length=12) (Y:Sl lp j) {o} (b0:o.length+j.length<900000) (hK:j.length<K) (b3:q.length<=j.length)
  {r} (S:n.length=8) (T:n≠Xg b m) (U:E.pure 158 [.agg [H,z2,I,J]]=some (.one (.int .i64 r))) (h0:Nr r (.ofNat 0)=false) (G):
  ∃G' v' g,Xb E K 0 [1,4,6,10,11,24,25,26] x144_3 (k+1) ⟨[(1,La4 lp),(4,.one (.ptr 0 0 0 0)),(6,.one (.ptr 1 0 0 0)),(10,.one (.ptr 2 0 0 0)),(11,.one (.own 3 v 0 o.length)),(24,La4 F),(25,La1 a.length),(26,La1 i)],RT lo by_ l fst::UO c1 c2 c3 c4 m::aH s t w A::Rp v o::G⟩=
   Xb E K 0 [1,4,6,10,11,24,25,26] x144_3 k ⟨[(1,La4 g),(4,.one (.ptr 0 0 0 0)),(6,.one (.ptr 1 0 0 0)),(10,.one (.ptr 2 0 0 0)),(11,.one (.own 3 v' 0 (o.length+q.length+1))),(24,La4 F),(25,La1 a.length),(26,La1 (i+1))],RT lo by_ l fst::UO c1 c2 c3 c4 m::aH s t w A::Rp v' ((o++q)++[H::z2::I::J::mo (Xg b m)])::G'⟩/\Sl g ((q1::q2::q3::q4::mo n)::X):=by
 have Q:i<a.length:=(Zg.mp hi).1;have m8:=R;have k8:=O;have L:(Xg b m).length=8:=by simp[Xg,R,O]
 have tk:(Xu b).take 8=Xu b:=Ze (by rw[Xc];omega);have dk:(Xu b).drop 8=[]:=Zo (by rw[Xc];omega);have ta:(Xu (Xg b m)).take 8=Xu (Xg b m):=Ze (by rw[Xc];omega);have da:(Xu (Xg b m)).drop 8=[]:=Zo (by rw[Xc];omega);have ip:=fun(N:HF) (W:IntKind)=>Z.idx (h:=N) (k:=W) (sz:=12) hi (by simp[XI,k8])
 have f1:Xd .i64 (.ofNat (i+1))=.ofNat (i+1):=wrap_i64 (by omega);have f2:(o.length+q.length+1)*128<=lim:=by unfold lim;omega
 have f3:o.length+q.length+1<=9223372036854775807:=by omega
 have w1:=X0 b;have w2:=X0 (Xg b m);obtain⟨T1,hx,a1,a2,a3,a4,a5,a6,a7,a8,a9⟩:=ic (K:=K) (by_:=by_) (fst:=fst) (lp:=lp) (c1:=c1) (c2:=c2) (c3:=c3) (c4:=c4) (x:=x) (y:=y) (z:=z) (u:=u) (lo:=lo) (s24:=.p F) (s25:=.p (La0 a.length)) (s26:=.p (La0 i)) (v:=v) (n:=o.length) (B2:=aH s t w A) (B3:=Rp v o) (G:=G) f C R O hs h9;obtain⟨T2,G2,v',g,hw,⟨e1,e2,e3,e4,e5,e6,e7,e8,e9⟩,c⟩:=bJ (K:=K) (by_:=by_) (fst:=fst) (l:=l) (x2:=H) (y2:=z2) (z2:=I) (u2:=J) (s24:=.p F) (s25:=.p (La0 a.length)) (s26:=.p (La0 i)) (b1:=UO c1 c2 c3 c4 m) (b2:=aH s t w A) f L G V M lp K v o [] Y (by omega) hK;simp only[RT,UO,aH,Rp]at hx hw;obtain rfl:=Sl.VU c;have P:=c.len;have ir:=fun(N:HF) (W:IntKind)=>c.idx (h:=N) (k:=W) (i:=0) (sz:=12) rfl (by simp[XI,S])
 have l1:0<X.length+1:=by omega
 have tn:(Xu n).take 8=Xu n:=Ze (by rw[Xc];omega);have dn:(Xu n).drop 8=[]:=Zo (by rw[Xc];omega);have B:=U3 S L;rw[decide_eq_false T]at B;apply Exists.intro;apply Exists.intro;refine⟨_,?_,c⟩;rw[Xb];simp+decide only[Xo,Xs,VD,Vv,reduceIte,Nat.reduceEqDiff,Nat.reduceLeDiff,Nat.reduceAdd,x144_3,f,X3,Q,ip,f1,f2,f3,D,hx,a1,a2,a3,a4,a5,a6,a7,a8,a9,hw,e1,e2,e3,e4,e5,e6,e7,e8,e9,P,Wj,Xc,XI,k8,L,tk,ta,VM,Wk,Wp,Zp,Zn,WB,VR,U,h0,ir,l1,B,tn,S];rfl
theorem sub_eq {V W X Y}{E}{K k v i}(f:E.mode=md)(h9:9<=K){lo by_ fst lp J c1 c2 c3 c4 t w A B x y z u z1 z2 z3 z4}{l}(H:65535<=l){m a}(Q:m.length=8)(N:a.length=8)(hs:∀e∈Xg a m,e<=65535){b}(b0:Sl J b)(b3:b.length<1000000)(hi:b[i]? =some (x::y::z::u::mo a))
  (I:E.pure 64 [.agg [t,w,A,B],.agg [x,y,z,u]]=some (.agg [z1,z2,z3,z4])) {es q s} (S:TO E lo (Xg a m) es q ((V::W::X::Y::mo (Xg a m))::s)) (L:∀d∈es,d.length=12) (a0:Sl lp es) {o} (b4:o.length+es.length<900000) (hK:es.length<K) (b5:q.length<=es.length)
  {r} {Z r2 r3 r4} (T:∀d∈s,d.length=12) (D:E.pure 157 [.agg [V,W,X,Y],.agg [z1,z2,z3,z4]]=some (.agg [Z,r2,r3,r4])) (R:E.pure 158 [.agg [Z,r2,r3,r4]]=some (.one (.int .i64 r))) (h0:Nr r (.ofNat 0)=false) (G):
  ∃G' v' g,Xb E K 0 [1,4,6,10,11,24,25,26] x144_3 (k+1) ⟨[(1,La4 lp),(4,.one (.ptr 0 0 0 0)),(6,.one (.ptr 1 0 0 0)),(10,.one (.ptr 2 0 0 0)),(11,.one (.own 3 v 0 o.length)),(24,La4 J),(25,La1 b.length),(26,La1 i)],RT lo by_ l fst::UO c1 c2 c3 c4 m::aH t w A B::Rp v o::G⟩=
   Xb E K 0 [1,4,6,10,11,24,25,26] x144_3 k ⟨[(1,La4 g),(4,.one (.ptr 0 0 0 0)),(6,.one (.ptr 1 0 0 0)),(10,.one (.ptr 2 0 0 0)),(11,.one (.own 3 v' 0 (o.length+q.length+1))),(24,La4 J),(25,La1 b.length),(26,La1 (i+1))],RT lo by_ l fst::UO c1 c2 c3 c4 m::aH t w A B::Rp v' ((o++q)++[Z::r2::r3::r4::mo (Xg a m)])::G'⟩/\Sl g s:=by
 have P:i<b.length:=(Zg.mp hi).1;have m8:=Q;have k8:=N;have C:(Xg a m).length=8:=by simp[Xg,Q,N]
 have tk:(Xu a).take 8=Xu a:=Ze (by rw[Xc];omega);have dk:(Xu a).drop 8=[]:=Zo (by rw[Xc];omega);have ta:(Xu (Xg a m)).take 8=Xu (Xg a m):=Ze (by rw[Xc];omega);have da:(Xu (Xg a m)).drop 8=[]:=Zo (by rw[Xc];omega);have ip:=fun(M:HF) (U:IntKind)=>b0.idx (h:=M) (k:=U) (sz:=12) hi (by simp[XI,k8])
 have f1:Xd .i64 (.ofNat (i+1))=.ofNat (i+1):=wrap_i64 (by omega);have f2:(o.length+q.length+1)*128<=lim:=by unfold lim;omega
 have f3:o.length+q.length+1<=9223372036854775807:=by omega
 have w1:=X0 a;have w2:=X0 (Xg a m);obtain⟨T1,hx,a1,a2,a3,a4,a5,a6,a7,a8,a9⟩:=ic (K:=K) (by_:=by_) (fst:=fst) (lp:=lp) (c1:=c1) (c2:=c2) (c3:=c3) (c4:=c4) (x:=x) (y:=y) (z:=z) (u:=u) (lo:=lo) (s24:=.p J) (s25:=.p (La0 b.length)) (s26:=.p (La0 i)) (v:=v) (n:=o.length) (B2:=aH t w A B) (B3:=Rp v o) (G:=G) f H Q N hs h9;obtain⟨T2,G2,v',g,hw,⟨e1,e2,e3,e4,e5,e6,e7,e8,e9⟩,j⟩:=bJ (K:=K) (by_:=by_) (fst:=fst) (l:=l) (x2:=z1) (y2:=z2) (z2:=z3) (u2:=z4) (s24:=.p J) (s25:=.p (La0 b.length)) (s26:=.p (La0 i)) (b1:=UO c1 c2 c3 c4 m) (b2:=aH t w A B) f C G S L lp K v o [] a0 (by omega) hK;simp only[RT,UO,aH,Rp]at hx hw;obtain rfl:=Sl.VU j;have O:=j.len;have hn:=C;have ir:=fun(M:HF) (U:IntKind)=>j.idx (h:=M) (k:=U) (i:=0) (sz:=12) rfl (by simp[XI,hn])
 have l1:0<s.length+1:=by omega
 have tn:(Xu (Xg a m)).take 8=Xu (Xg a m):=Ze (by rw[Xc];omega);have dn:(Xu (Xg a m)).drop 8=[]:=Zo (by rw[Xc];omega);have F:=U3 C C;rw[decide_eq_true rfl]at F;have j1:¬(G.length+(G2.length+1)<=G.length):=by omega
 have s1:=Ul (c:=V::W::X::Y::mo (Xg a m)) (es:=s) T;apply Exists.intro;apply Exists.intro;refine⟨.Xl s,?_,.Xl⟩;rw[Xb];simp+decide only[Xo,Xs,VD,Vv,reduceIte,Nat.reduceEqDiff,Nat.reduceLeDiff,Nat.reduceAdd,x144_3,f,X3,P,ip,f1,f2,f3,I,hx,a1,a2,a3,a4,a5,a6,a7,a8,a9,hw,e1,e2,e3,e4,e5,e6,e7,e8,e9,O,Wj,Xc,XI,k8,C,tk,ta,VM,Wk,Wp,Zp,Zn,WB,VR,D,R,h0,ir,l1,F,s1,j1];rfl
theorem sub_zero {V W X Y}{E}{K k v i}(f:E.mode=md)(h9:9<=K){lo by_ fst lp J c1 c2 c3 c4 t w A B x y z u z1 z2 z3 z4}{l}(H:65535<=l){m a}(Q:m.length=8)(N:a.length=8)(hs:∀e∈Xg a m,e<=65535){b}(a0:Sl J b)(b0:b.length<1000000)(hi:b[i]? =some (x::y::z::u::mo a))
  (I:E.pure 64 [.agg [t,w,A,B],.agg [x,y,z,u]]=some (.agg [z1,z2,z3,z4])) {es q s} (S:TO E lo (Xg a m) es q ((V::W::X::Y::mo (Xg a m))::s)) (L:∀d∈es,d.length=12) (Z:Sl lp es) {o} (b3:o.length+es.length<900000) (hK:es.length<K) (b4:q.length<=es.length)
  {r} {r1 r2 r3 r4} (T:∀d∈s,d.length=12) (D:E.pure 157 [.agg [V,W,X,Y],.agg [z1,z2,z3,z4]]=some (.agg [r1,r2,r3,r4])) (R:E.pure 158 [.agg [r1,r2,r3,r4]]=some (.one (.int .i64 r))) (h0:Nr r (.ofNat 0)=true) (G):
  ∃G' v' g,Xb E K 0 [1,4,6,10,11,24,25,26] x144_3 (k+1) ⟨[(1,La4 lp),(4,.one (.ptr 0 0 0 0)),(6,.one (.ptr 1 0 0 0)),(10,.one (.ptr 2 0 0 0)),(11,.one (.own 3 v 0 o.length)),(24,La4 J),(25,La1 b.length),(26,La1 i)],RT lo by_ l fst::UO c1 c2 c3 c4 m::aH t w A B::Rp v o::G⟩=
   Xb E K 0 [1,4,6,10,11,24,25,26] x144_3 k ⟨[(1,La4 g),(4,.one (.ptr 0 0 0 0)),(6,.one (.ptr 1 0 0 0)),(10,.one (.ptr 2 0 0 0)),(11,.one (.own 3 v' 0 (o.length+q.length))),(24,La4 J),(25,La1 b.length),(26,La1 (i+1))],RT lo by_ l fst::UO c1 c2 c3 c4 m::aH t w A B::Rp v' ((o++q))::G'⟩/\Sl g s:=by
 have P:i<b.length:=(Zg.mp hi).1;have m8:=Q;have k8:=N;have C:(Xg a m).length=8:=by simp[Xg,Q,N]
 have tk:(Xu a).take 8=Xu a:=Ze (by rw[Xc];omega);have dk:(Xu a).drop 8=[]:=Zo (by rw[Xc];omega);have ta:(Xu (Xg a m)).take 8=Xu (Xg a m):=Ze (by rw[Xc];omega);have da:(Xu (Xg a m)).drop 8=[]:=Zo (by rw[Xc];omega);have ip:=fun(M:HF) (U:IntKind)=>a0.idx (h:=M) (k:=U) (sz:=12) hi (by simp[XI,k8])
 have f1:Xd .i64 (.ofNat (i+1))=.ofNat (i+1):=wrap_i64 (by omega);have f2:(o.length+q.length+1)*128<=lim:=by unfold lim;omega
 have f3:o.length+q.length+1<=9223372036854775807:=by omega
 have w1:=X0 a;have w2:=X0 (Xg a m);obtain⟨T1,hx,a1,a2,a3,a4,a5,a6,a7,a8,a9⟩:=ic (K:=K) (by_:=by_) (fst:=fst) (lp:=lp) (c1:=c1) (c2:=c2) (c3:=c3) (c4:=c4) (x:=x) (y:=y) (z:=z) (u:=u) (lo:=lo) (s24:=.p J) (s25:=.p (La0 b.length)) (s26:=.p (La0 i)) (v:=v) (n:=o.length) (B2:=aH t w A B) (B3:=Rp v o) (G:=G) f H Q N hs h9;obtain⟨T2,G2,v',g,hw,⟨e1,e2,e3,e4,e5,e6,e7,e8,e9⟩,j⟩:=bJ (K:=K) (by_:=by_) (fst:=fst) (l:=l) (x2:=z1) (y2:=z2) (z2:=z3) (u2:=z4) (s24:=.p J) (s25:=.p (La0 b.length)) (s26:=.p (La0 i)) (b1:=UO c1 c2 c3 c4 m) (b2:=aH t w A B) f C G S L lp K v o [] Z (by omega) hK;simp only[RT,UO,aH,Rp]at hx hw;obtain rfl:=Sl.VU j;have O:=j.len;have hn:=C;have ir:=fun(M:HF) (U:IntKind)=>j.idx (h:=M) (k:=U) (i:=0) (sz:=12) rfl (by simp[XI,hn])
 have l1:0<s.length+1:=by omega
 have tn:(Xu (Xg a m)).take 8=Xu (Xg a m):=Ze (by rw[Xc];omega);have dn:(Xu (Xg a m)).drop 8=[]:=Zo (by rw[Xc];omega);have F:=U3 C C;rw[decide_eq_true rfl]at F;have j1:¬(G.length+(G2.length+1)<=G.length):=by omega
 have s1:=Ul (c:=V::W::X::Y::mo (Xg a m)) (es:=s) T;apply Exists.intro;apply Exists.intro;refine⟨.Xl s,?_,.Xl⟩;rw[Xb];simp+decide only[Xo,Xs,VD,Vv,reduceIte,Nat.reduceEqDiff,Nat.reduceLeDiff,Nat.reduceAdd,x144_3,f,X3,P,ip,f1,I,hx,a1,a2,a3,a4,a5,a6,a7,a8,a9,hw,e1,e2,e3,e4,e5,e6,e7,e8,e9,O,Wj,Xc,XI,k8,C,tk,ta,Wk,Wp,Zn,D,R,h0,ir,l1,F,s1,j1];rfl
inductive lP (E:Xa)(lo:PL)(d:N')(m:P'):Z'->Z'->Z'->Z'->Prop
 |nil {es:Z'}:lP E lo d m es [] [] es
 |none {x y z u z1 z2 z3 z4:PL} {kk:P'} {es os qs pre rest:Z'} {r:Int} (hk:kk.length=8) (hs:∀e∈Xg kk m,e<=65535) (hmul:E.pure 64 [.agg d,.agg [x,y,z,u]]=some (.agg [z1,z2,z3,z4])) (hwh:TO E lo (Xg kk m) es os [])
   (hsg:E.pure 158 [.agg [z1,z2,z3,z4]]=some (.one (.int .i64 r))) (h0:Nr r (.ofNat 0)=false) (h:lP E lo d m [] qs pre rest):lP E lo d m es ((x::y::z::u::mo kk)::qs) (os++(z1::z2::z3::z4::mo (Xg kk m))::pre) rest
 |diff {x y z u z1 z2 z3 z4 q1 q2 q3 q4:PL} {kk n:P'} {es os rs qs pre rest:Z'} {r:Int} (hk:kk.length=8) (hs:∀e∈Xg kk m,e<=65535) (hmul:E.pure 64 [.agg d,.agg [x,y,z,u]]=some (.agg [z1,z2,z3,z4])) (hwh:TO E lo (Xg kk m) es os ((q1::q2::q3::q4::mo n)::rs))
   (hn:n.length=8) (hne:n≠Xg kk m) (hsg:E.pure 158 [.agg [z1,z2,z3,z4]]=some (.one (.int .i64 r))) (h0:Nr r (.ofNat 0)=false) (h:lP E lo d m ((q1::q2::q3::q4::mo n)::rs) qs pre rest):
   lP E lo d m es ((x::y::z::u::mo kk)::qs) (os++(z1::z2::z3::z4::mo (Xg kk m))::pre) rest
 |eq {x y z u z1 z2 z3 z4 q1 q2 q3 q4 r1 r2 r3 r4:PL} {kk:P'} {es os rs qs pre rest:Z'} {r:Int} (hk:kk.length=8) (hs:∀e∈Xg kk m,e<=65535) (hmul:E.pure 64 [.agg d,.agg [x,y,z,u]]=some (.agg [z1,z2,z3,z4])) (hwh:TO E lo (Xg kk m) es os ((q1::q2::q3::q4::mo (Xg kk m))::rs))
   (hadd:E.pure 157 [.agg [q1,q2,q3,q4],.agg [z1,z2,z3,z4]]=some (.agg [r1,r2,r3,r4])) (hsg:E.pure 158 [.agg [r1,r2,r3,r4]]=some (.one (.int .i64 r))) (h0:Nr r (.ofNat 0)=false) (h:lP E lo d m rs qs pre rest):
   lP E lo d m es ((x::y::z::u::mo kk)::qs) (os++(r1::r2::r3::r4::mo (Xg kk m))::pre) rest
 |zero {x y z u z1 z2 z3 z4 q1 q2 q3 q4 r1 r2 r3 r4:PL} {kk:P'} {es os rs qs pre rest:Z'} {r:Int} (hk:kk.length=8) (hs:∀e∈Xg kk m,e<=65535) (hmul:E.pure 64 [.agg d,.agg [x,y,z,u]]=some (.agg [z1,z2,z3,z4])) (hwh:TO E lo (Xg kk m) es os ((q1::q2::q3::q4::mo (Xg kk m))::rs))
   (hadd:E.pure 157 [.agg [q1,q2,q3,q4],.agg [z1,z2,z3,z4]]=some (.agg [r1,r2,r3,r4])) (hsg:E.pure 158 [.agg [r1,r2,r3,r4]]=some (.one (.int .i64 r))) (h0:Nr r (.ofNat 0)=true) (h:lP E lo d m rs qs pre rest):
   lP E lo d m es ((x::y::z::u::mo kk)::qs) (os++pre) rest
theorem TO.app {E}{e}{mm}{a b c}(h:TO E e mm a b c):a=b++c:=by
 induction h with
 |CP=>rfl
 |stop=>rfl
 |go g f h d=>rw[d];rfl
theorem IZ {E:Xa}{K:Nat}(J:E.mode=md)(h9:9<=K){lo by_ fst lq c1 c2 c3 c4 d1 d2 d3 d4:PL}{l:Nat}(w:65535<=l){m:P'}(hm:m.length=8){e:Z'}(O:Sl lq e)(a2:e.length<400000){t N q rest:Z'}(h:lP E lo [d1,d2,d3,d4] m t N q rest):
  (∀d∈t,d.length=12)->∀(M:PL) (i k v:Nat) (o:Z') (G:V'),Sl M t->e.drop i=N->i+N.length=e.length->o.length+t.length+N.length<900000->t.length<K->N.length<k->
  ∃C G' v' B,Xb E K 0 [1,4,6,10,11,24,25,26] x144_3 k ⟨[(1,La4 M),(4,.one (.ptr 0 0 0 0)),(6,.one (.ptr 1 0 0 0)),(10,.one (.ptr 2 0 0 0)),(11,.one (.own 3 v 0 o.length)),(24,La4 lq),(25,La1 e.length),(26,La1 i)],RT lo by_ l fst::UO c1 c2 c3 c4 m::aH d1 d2 d3 d4::Rp v o::G⟩=
   some (.exit 0,⟨C,RT lo by_ l fst::UO c1 c2 c3 c4 m::aH d1 d2 d3 d4::Rp v' (o++q)::G'⟩)/\(Xi C 1=some (La4 B)/\Xi C 11=some (.one (.own 3 v' 0 (o++q).length)))/\Sl B rest/\(∀d∈rest,d.length=12):=by
 induction h with
 |@nil t=>
  intro a M i k v o G T A I R P Q;rcases k with _|k;omega;have a0:¬i<e.length:=by simp at I;omega
  have :∃C,Xb E K 0 [1,4,6,10,11,24,25,26] x144_3 (k+1) ⟨[(1,La4 M),(4,.one (.ptr 0 0 0 0)),(6,.one (.ptr 1 0 0 0)),(10,.one (.ptr 2 0 0 0)),(11,.one (.own 3 v 0 o.length)),(24,La4 lq),(25,La1 e.length),(26,La1 i)],RT lo by_ l fst::UO c1 c2 c3 c4 m::aH d1 d2 d3 d4::Rp v o::G⟩=
   some (.exit 0,⟨C,RT lo by_ l fst::UO c1 c2 c3 c4 m::aH d1 d2 d3 d4::Rp v o::G⟩)/\(Xi C 1=some (La4 M)/\Xi C 11=some (.one (.own 3 v 0 o.length))):=by
   apply VW
   ·rw[Xb];simp only[Xo,Xs,reduceIte,Nat.reduceEqDiff,x144_3,a0];rfl
   ·refine⟨?_,?_⟩<;>simp only[Xo,reduceIte,Nat.reduceEqDiff]
  grind
 |@none x y z u z1 z2 z3 z4 kk t H N q rest r Q Y b c g h0 h Z=>
  intro a M i k v o G T A I R P f;rcases k with _|k;omega;simp only[Zj]at I R f;obtain⟨X,V⟩:=Xh A;have W:=c.app;have el:t.length=H.length+0:=by rw[W];simp
  obtain⟨U,v1,j,g1,s⟩:=Gn (rs:=[]) (k:=k) (v:=v) (by_:=by_) (fst:=fst) (c1:=c1) (c2:=c2) (c3:=c3) (c4:=c4) (o:=o) J h9 w hm Q Y O (by omega) X b c a T (by omega) P (by omega) g h0 G;obtain⟨C,G',v',B,g2,g3,g4⟩:=Z (fun _ A=>by cases A) j (i+1) k v1 (o++H++[z1::z2::z3::z4::mo (Xg kk m)]) U s V (by omega) (by simp;omega) (by simp;omega) (by omega)
  grind
 |@diff x y z u z1 z2 z3 z4 q1 q2 q3 q4 kk n t H S N q rest r Q Y b c hn a1 g h0 h Z=>
  intro a M i k v o G T A I R P f;rcases k with _|k;omega;simp only[Zj]at I R f;obtain⟨X,V⟩:=Xh A;have W:=c.app;have el:t.length=H.length+(S.length+1):=by rw[W];simp
  obtain⟨U,v1,j,g1,s⟩:=CN (k:=k) (v:=v) (by_:=by_) (fst:=fst) (c1:=c1) (c2:=c2) (c3:=c3) (c4:=c4) (o:=o) J h9 w hm Q Y O (by omega) X b c a T (by omega) P (by omega) hn a1 g h0 G;obtain⟨C,G',v',B,g2,g3,g4⟩:=Z (fun d A=>a d (by grind)) j (i+1) k v1 (o++H++[z1::z2::z3::z4::mo (Xg kk m)]) U s V (by omega) (by simp;omega) (by simp;omega) (by omega)
  grind
 |@eq x y z u z1 z2 z3 z4 q1 q2 q3 q4 r1 r2 r3 r4 kk t H S N q rest r Q Y b c D g h0 h Z=>
  intro a M i k v o G T A I R P f;rcases k with _|k;omega;simp only[Zj]at I R f;obtain⟨X,V⟩:=Xh A;have W:=c.app;have el:t.length=H.length+(S.length+1):=by rw[W];simp
  have F:∀d∈S,d.length=12:=fun d A=>a d (by grind)
  obtain⟨U,v1,j,g1,s⟩:=sub_eq (k:=k) (v:=v) (by_:=by_) (fst:=fst) (c1:=c1) (c2:=c2) (c3:=c3) (c4:=c4) (o:=o) J h9 w hm Q Y O (by omega) X b c a T (by omega) P (by omega) F D g h0 G;obtain⟨C,G',v',B,g2,g3,g4⟩:=Z F j (i+1) k v1 (o++H++[r1::r2::r3::r4::mo (Xg kk m)]) U s V (by omega) (by simp;omega) (by omega) (by omega)
  grind
 |@zero x y z u z1 z2 z3 z4 q1 q2 q3 q4 r1 r2 r3 r4 kk t H S N q rest r Q Y b c D g h0 h Z=>
  intro a M i k v o G T A I R P f;rcases k with _|k;omega;simp only[Zj]at I R f;obtain⟨X,V⟩:=Xh A;have W:=c.app;have el:t.length=H.length+(S.length+1):=by rw[W];simp
  have F:∀d∈S,d.length=12:=fun d A=>a d (by grind)
  obtain⟨U,v1,j,g1,s⟩:=sub_zero (k:=k) (v:=v) (by_:=by_) (fst:=fst) (c1:=c1) (c2:=c2) (c3:=c3) (c4:=c4) (o:=o) J h9 w hm Q Y O (by omega) X b c a T (by omega) P (by omega) F D g h0 G;obtain⟨C,G',v',B,g2,g3,g4⟩:=Z F j (i+1) k v1 (o++H) U s V (by omega) (by simp;omega) (by omega) (by omega)
  grind
def Uk (o:M')(mm:P'):I'->I'×I'
 |[]=>([],[])
 |s::p=>if WY o s.2 mm=.ofNat 1 then(s::(Uk o mm p).1,(Uk o mm p).2)else([],s::p)
def T7 (o:M')(c:Rat)(m:P'):I'->I'->I'
 |p,[]=>p
 |p,t::q=>match Uk o (Xg t.2 m) p with
  |(os,[])=>os++(c*t.1,Xg t.2 m)::T7 o c m [] q
  |(os,s::rs)=>if s.2=Xg t.2 m then(if s.1+c*t.1=0 then os++T7 o c m rs q else os++(s.1+c*t.1,Xg t.2 m)::T7 o c m rs q)else os++(c*t.1,Xg t.2 m)::T7 o c m (s::rs) q
theorem mS {B}(v:Std B){z}{o}(A:SA z o)(w:Vq o)(g:o.length<1000000){mm}(f:XA mm):∀{u} {p},X6 u p->∃t j,(XT B fun E _=>TO E z mm u t j)/\X6 t (Uk o mm p).1/\X6 j (Uk o mm p).2
 |_,_,.nil=>⟨[],[],XT.of fun _ _=>.CP,.nil,.nil⟩
 |_,_,.cons (x:=c) (y:=s) m h=>by
  have r:=m;obtain⟨n,a,d,b,rfl,q,l⟩:=r;have k:=N6 v A w l f g;unfold Uk;by_cases i:WY o s.2 mm=.ofNat 1
  ·rw[if_pos i];rw[i]at k;obtain⟨t,j,C,D,F⟩:=mS v A w g f h;exact⟨_,j,(C.and k.Xk).mono fun E K ⟨e1,e2⟩=>.go l.1 e2 e1,.cons m D,F⟩
  ·rw[if_neg i];refine⟨[],_,k.Xk.mono fun E K e=>.stop l.1 e ?_,.nil,.cons m h⟩;rcases Sf o s.2 mm with h2|h2|h2
   ·exact absurd h2 i
   ·rw[h2];rfl
   ·rw[h2];rfl
theorem Sz.sub {a b}(h:Sz a)(c:∀t∈b,t∈a):Sz b:=fun t d=>h t (c t d)
theorem P5 (o)(mm):∀p,(Uk o mm p).1++(Uk o mm p).2=p
 |[]=>rfl
 |s::p=>by
  unfold Uk;split
  ·rw[ZD,P5 o mm p]
  ·rfl
theorem gO {B}(j:Std B){lo}{o}(S:SA lo o)(O:Vq o)(g:o.length<1000000){d}{c}(M:Rw d c)(L:Sq c)(I:c≠0){m}(W:XA m):∀{qs} {q},X6 qs q->Sz q->(∀t∈q,XA (Xg t.2 m)/\t.1≠0/\Sq (c*t.1))->
  ∀{es} {p},X6 es p->Sz p->∃f rest,(XT B fun E _=>lP E lo d m es qs f rest)/\X6 (f++rest) (T7 o c m p q)
 |_,_,.nil,_,_,es,p,hp,_=>⟨[],es,XT.of fun _ _=>.nil,hp⟩
 |_,_,.cons (x:=x) (y:=t) (ys:=q) ht h,hz,hq,es,p,hp,zp=>by
  obtain⟨i,h2,h3⟩:=hq t (Zc ..);have z:∀t∈q,XA (Xg t.2 m)/\t.1≠0/\Sq (c*t.1):=fun u hu=>hq u (Za _ hu)
  obtain⟨os,rs,J,D,g3⟩:=mS j S O g i hp;have F:=P5 o (Xg t.2 m) p;have Y:=ht;obtain⟨n,a,e,b,rfl,qq,N⟩:=Y;obtain⟨w,Q,H⟩:=OY j M qq L hz.head;have U:c*t.1≠0:=fun h=>(Rat.mul_eq_zero.1 h).elim I h2
  have k3:=NY j H;have k0:=vW U;obtain⟨n1,a1,d1,b1,rfl⟩:=H.len;unfold T7;generalize a0:Uk o (Xg t.2 m) p=sp at D g3 F;obtain⟨P,R⟩:=sp;cases g3 with
  |nil=>
   obtain⟨f,rest,A,C⟩:=gO j S O g M L I W h hz.tail z (es:=[]) (p:=[]) .nil Sz.nil;refine⟨_,rest,(J.and (Q.Xk.and (k3.Xk.and A))).mono fun E K ⟨e1,e2,k,l⟩=>.none N.1 i.2 e2 e1 k k0 l,?_⟩;rw[Zp,ZD];exact D.append (.cons (Vn.mk H i) C)
  |@cons r s rs R hr hR=>
   have zR:Sz (s::R):=zp.sub fun u hu=>by grind
   have X:=hr;obtain⟨n2,a2,d2,b2,rfl,q2,V⟩:=X;show∃f rest,_/\X6 (f++rest) (if s.2=Xg t.2 m then(if s.1+c*t.1=0 then P++T7 o c m R _ else P++(s.1+c*t.1,Xg t.2 m)::T7 o c m R _)else P++(c*t.1,Xg t.2 m)::T7 o c m (s::R) _);by_cases G:s.2=Xg t.2 m
   ·rw[if_pos G];obtain⟨s1,s2⟩:=s;simp only at G;subst G;obtain⟨v,v1,Z⟩:=jt j q2 H zR.head h3;have v3:=NY j Z;obtain⟨n3,a3,d3,b3,rfl⟩:=Z.len;obtain⟨f,rest,A,C⟩:=gO j S O g M L I W h hz.tail z hR zR.tail;by_cases h0:s1+c*t.1=0
    ·rw[if_pos h0];simp only[h0]at v3;refine⟨_,rest,(J.and (Q.Xk.and (v1.Xk.and (v3.Xk.and A)))).mono fun E K ⟨e1,e2,k,l,T⟩=>.zero N.1 i.2 e2 e1 k l Lj T,?_⟩;rw[Zp];exact D.append C
    ·rw[if_neg h0];refine⟨_,rest,(J.and (Q.Xk.and (v1.Xk.and (v3.Xk.and A)))).mono fun E K ⟨e1,e2,k,l,T⟩=>.eq N.1 i.2 e2 e1 k l (vW h0) T,?_⟩;rw[Zp,ZD];exact D.append (.cons (Vn.mk Z i) C)
   ·rw[if_neg G];obtain⟨f,rest,A,C⟩:=gO j S O g M L I W h hz.tail z (.cons hr hR) zR;refine⟨_,rest,(J.and (Q.Xk.and (k3.Xk.and A))).mono fun E K ⟨e1,e2,k,l⟩=>.diff N.1 i.2 e2 e1 V.1 G k k0 l,?_⟩;rw[Zp,ZD];exact D.append (.cons (Vn.mk H i) C)
theorem bO (o)(c)(m):∀q p,(T7 o c m p q).length<=p.length+q.length
 |[],p=>by simp[T7]
 |t::q,p=>by
  have a:=congrArg List.length (P5 o (Xg t.2 m) p);rw[Zn]at a;unfold T7;generalize Uk o (Xg t.2 m) p=sp at a;obtain⟨P,R⟩:=sp;cases R with
  |nil=>
   have:=bO o c m q []
   grind
  |cons s R=>
   have b:=bO o c m q R;have d:=bO o c m q (s::R)
   grind
theorem pb {B}(v:Std B){N by_ fst}{l}(j:65535<=l){o}(so:SA N o)(ho:Vq o)(z:o.length<1000000){P}{s}(hs:Vn P s)(S:Sq s.1)(s0:s.1≠0){lp O}{p q}(m:PQ lp p)(zp:Sz p)(w:PQ O q)(zq:Sz q)
  (C:∀t∈q,XA (Xg t.2 s.2)/\t.1≠0/\Sq (-s.1*t.1)) (l1:p.length<400000) (l2:q.length<400000):
  ∃g,Xv B 144 [.agg [N,by_,La0 l,fst],.one lp,.agg P,.one O] (.Wd [.one (.Xl g),.one (.bool true)])/\X6 g (T7 o (-s.1) s.2 p q):=by
 obtain⟨i,Q,m⟩:=m;obtain⟨u,R,w⟩:=w;have T:=m.length;have U:=w.length;obtain⟨G,H,c3,c4,rfl,hc,y⟩:=hs;obtain⟨d,h1,J⟩:=js v hc S;have n0: -s.1≠0:=fun h=>s0 (by grind)
 obtain⟨f,rest,g1,I⟩:=gO v so ho z J S.neg n0 y w zq C m zp;obtain⟨n,a,e,b,rfl⟩:=J.len;refine⟨f++rest,Xv.of (v.Wa _ _ rfl) ((g1.and (h1.Xk.and (v.Xk.and (XT.ge (i.length+u.length+10))))).mono fun E K ⟨e1,e2,k,hK⟩=> ?_),I⟩;obtain⟨T',G',v',a1,F,⟨k2,M⟩,k4,k5⟩:=IZ (K:=K) (by_:=by_) (fst:=fst) (c1:=.bool G) (c2:=H) (c3:=.bool c3) (c4:=c4) k (by omega) j y.1 R (by omega) e1 (fun d hd=>Q3.len (X6.cU m d hd)) lp 0 K 0 [] [] Q rfl (by omega) (by simp;omega) (by omega) (by omega);rw[ZB]at F M;have m8:=y.1;have tm:(Xu s.2).take 8=Xu s.2:=Ze (by rw[Xc];omega);have V:Xd .i64 (.ofNat (i.length+u.length))=.ofNat (i.length+u.length):=wrap_i64 (by omega);have W:128*(i.length+u.length)<=lim:=by unfold lim;omega
 have X:i.length+u.length<=9223372036854775807:=by omega
 have w1:=X0 s.2;have x:=fun h=>k4.chunks (h:=h)
 have A:=I.length;have a0:=bO o (-s.1) s.2 q p;rw[Zn]at A;have Y:(f.length+rest.length)*128<=lim:=by unfold lim;omega
 have Z:f.length+rest.length<=9223372036854775807:=by omega
 have f5:(rest.map (·.map DL.p)).all (fun c=>decide (c.length=12))=true:=by
  grind
 have f6:(rest.map (·.map DL.p)).length=rest.length:=by simp
 have D:=WT (f++rest) (Zf _);have L:=fun h=>Vb 5 h (f++rest)
 have r:=DW f rest;rw[Zn]at D;simp only[Zr,RT,UO,aH,Rp,pc,ZF]at F;simp only[pc]at D L r;simp only[Xo,Xs,VD,reduceIte,Nat.reduceEqDiff,Nat.reduceLeDiff,Nat.reduceAdd,Zw,x144,Q.len,R.len,k,X3,Wj,Xc,m8,e2,V,W,X,F,k2,M,x,Y,Z,f5,f6,r,D,L,ZP,Zn,Zf]
