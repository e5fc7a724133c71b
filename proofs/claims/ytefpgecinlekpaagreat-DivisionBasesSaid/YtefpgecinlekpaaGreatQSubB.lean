/- Division: subtract, the rounds over the terms of a divisor (written by gen_qsub3.py). -/
import Derived.Test.YtefpgecinlekpaaGreatQSub
set_option maxHeartbeats 16000000
set_option maxRecDepth 100000
namespace Go.Proofs.YtefpgecinlekpaaGreat
open Go.Ev Go.Num
theorem Ty {m n:List Nat}(hm:m.length=8)(hn:n.length=8):WY false .i64 8 [.agg (moD m),.agg (moD n)]=some ⟨.one (.p (.bool (decide (m=n)))),[],[],[]⟩:=by
 have h1:Nat.beq (moD m).length 8=true:=by rw[Xb,hm];rfl
 simp only[WY,Res.pure,h1,cond_true,SF m n (by rw[hm,hn])]
 simp
theorem exps_mo {E:Oracle}{K:Nat}(hmd:E.mode=md){lo by_ fst lp c1 c2 c3 c4 x y z u:PL}{s24 s25 s26:DL}{l v n:Nat}(hlim:65535<=l){B2 B3:Blk}{G:List Blk}{m kk:List Nat}(hm:m.length=8)(hk:kk.length=8)(hs:∀e∈Xh kk m,e<=65535){k:Nat}(h9:9<=k):
  ∃T',Xa E K 0 [1,4,6,10,11,13,24,25,26,30] x105_1 k ⟨[(1,.one (.p lp)),(4,.one (.ptr 0 0 0 0)),(6,.one (.ptr 1 0 0 0)),(10,.one (.ptr 2 0 0 0)),(11,.one (.own 3 v 0 n)),(13,.one (.ptr (G.length+1+1+1+1) 0 0 0)),(24,.one s24),(25,.one s25),(26,.one s26),(30,.one (.p (.int .i64 (.ofNat 0))))],dnB lo by_ l fst::tmK c1 c2 c3 c4 m::B2::B3::(G++[tmK x y z u kk])⟩=
   some (.exit 2,⟨T',dnB lo by_ l fst::tmK c1 c2 c3 c4 m::B2::B3::(G++[tmK x y z u (Xh kk m)])⟩)/\SlotsS T' lp v n (G.length+1+1+1+1) s24 s25 s26:=by
 obtain⟨k1,k2,k3,k4,k5,k6,k7,k8,rfl⟩:=eight hk
 obtain⟨m1,m2,m3,m4,m5,m6,m7,m8,rfl⟩:=eight hm
 obtain⟨k,rfl⟩:∃k',k=k'+9:=⟨k-9,by omega⟩
 simp only[Xh,ZG,List.zipWith_nil_right,Zk,Yk,or_false,forall_eq_or_imp,forall_eq]at hs
 obtain⟨h0,h1,h2,h3,h4,h5,h6,h7⟩:=hs
 exact exps_all hmd hlim h0 h1 h2 h3 h4 h5 h6 h7
theorem sub_nil {E:Oracle}{K k v i:Nat}(hmd:E.mode=md)(h9:9<=K){lo by_ fst lp lq c1 c2 c3 c4 d1 d2 d3 d4 x y z u z1 z2 z3 z4:PL}{l:Nat}(hlim:65535<=l){m kk:List Nat}(hm:m.length=8)(hk:kk.length=8)(hs:∀e∈Xh kk m,e<=65535){all:List (List PL)}(slq:Sl lq all)(hall:all.length<1000000)(hi:all[i]? =some (x::y::z::u::mo kk))
  (hmul:E.pure 90 [.agg [d1,d2,d3,d4],.agg [x,y,z,u]]=some (.agg [z1,z2,z3,z4])) {es os rs:List (List PL)} (hwh:WhileR E lo (Xh kk m) es os []) (h12:∀d∈es,d.length=12) (slp:Sl lp es) {o:List (List PL)} (hol:o.length+es.length<900000) (hK:es.length<K) (hos:os.length<=es.length)
  {r:Int} (hsg:E.pure 132 [.agg [z1,z2,z3,z4]]=some (.one (.int .i64 r))) (h0:eqF r (.ofNat 0)=false) (G:List Blk):
  ∃G' v' lp',Xa E K 0 [1,4,6,10,11,24,25,26] x105_3 (k+1) ⟨[(1,.one (.p lp)),(4,.one (.ptr 0 0 0 0)),(6,.one (.ptr 1 0 0 0)),(10,.one (.ptr 2 0 0 0)),(11,.one (.own 3 v 0 o.length)),(24,.one (.p lq)),(25,.one (.p (.int .i64 (.ofNat all.length)))),(26,.one (.p (.int .i64 (.ofNat i))))],dnB lo by_ l fst::tmK c1 c2 c3 c4 m::rtB d1 d2 d3 d4::trB v o::G⟩=
   Xa E K 0 [1,4,6,10,11,24,25,26] x105_3 k ⟨[(1,.one (.p lp')),(4,.one (.ptr 0 0 0 0)),(6,.one (.ptr 1 0 0 0)),(10,.one (.ptr 2 0 0 0)),(11,.one (.own 3 v' 0 (o.length+os.length+1))),(24,.one (.p lq)),(25,.one (.p (.int .i64 (.ofNat all.length)))),(26,.one (.p (.int .i64 (.ofNat (i+1)))))],dnB lo by_ l fst::tmK c1 c2 c3 c4 m::rtB d1 d2 d3 d4::trB v' ((o++os)++[z1::z2::z3::z4::mo (Xh kk m)])::G'⟩/\Sl lp' []:=by
 have hlt:i<all.length:=(Zb.mp hi).1
 have m8:=hm
 have k8:=hk
 have g8:(Xh kk m).length=8:=by simp[Xh,hm,hk]
 have tk:(moD kk).take 8=moD kk:=Ze (by rw[Xb];omega)
 have dk:(moD kk).drop 8=[]:=Zp (by rw[Xb];omega)
 have ta:(moD (Xh kk m)).take 8=moD (Xh kk m):=Ze (by rw[Xb];omega)
 have da:(moD (Xh kk m)).drop 8=[]:=Zp (by rw[Xb];omega)
 have ip:=fun(hh:HF) (kd:IntKind)=>slq.idx (h:=hh) (k:=kd) (sz:=12) hi (by simp[Xt,k8])
 have f1:Xd .i64 (.ofNat (i+1))=.ofNat (i+1):=wrap_i64 (by omega)
 have f2:(o.length+os.length+1)*128<=lim:=by unfold lim;omega
 have f3:o.length+os.length+1<=9223372036854775807:=by omega
 have w1:=Xx kk
 have w2:=Xx (Xh kk m)
 obtain⟨T1,hx,a1,a2,a3,a4,a5,a6,a7,a8,a9⟩:=exps_mo (K:=K) (by_:=by_) (fst:=fst) (lp:=lp) (c1:=c1) (c2:=c2) (c3:=c3) (c4:=c4) (x:=x) (y:=y) (z:=z) (u:=u) (lo:=lo) (s24:=.p lq) (s25:=.p (.int .i64 (.ofNat all.length))) (s26:=.p (.int .i64 (.ofNat i))) (v:=v) (n:=o.length) (B2:=rtB d1 d2 d3 d4) (B3:=trB v o) (G:=G) hmd hlim hm hk hs h9
 obtain⟨T2,G2,v',lp',hw,⟨e1,e2,e3,e4,e5,e6,e7,e8,e9⟩,slr⟩:=while_go (K:=K) (by_:=by_) (fst:=fst) (l:=l) (x2:=z1) (y2:=z2) (z2:=z3) (u2:=z4) (s24:=.p lq) (s25:=.p (.int .i64 (.ofNat all.length))) (s26:=.p (.int .i64 (.ofNat i))) (b1:=tmK c1 c2 c3 c4 m) (b2:=rtB d1 d2 d3 d4) hmd g8 G hwh h12 lp K v o [] slp (by omega) hK
 simp only[dnB,tmK,rtB,trB]at hx hw
 have hlr:=slr.len
 apply Exists.intro;apply Exists.intro;refine⟨lp',?_,slr⟩
 rw[Xa]
 simp(decide:=true)only[EVS,EVN,EVF,EVH,reduceIte,Nat.reduceEqDiff,Nat.reduceLeDiff,Nat.reduceAdd,x105_3,hmd,MDS,hlt,ip,f1,f2,f3,hmul,hx,a1,a2,a3,a4,a5,a6,a7,a8,a9,hw,e1,e2,e3,e4,e5,e6,e7,e8,e9,hlr,XT,Xb,k8,g8,tk,ta,Vn,XK,XS,Zq,Zm,XR,WK,hsg,h0]
 rfl
theorem sub_diff {q1 q2 q3 q4:PL}{n:List Nat}{E:Oracle}{K k v i:Nat}(hmd:E.mode=md)(h9:9<=K){lo by_ fst lp lq c1 c2 c3 c4 d1 d2 d3 d4 x y z u z1 z2 z3 z4:PL}{l:Nat}(hlim:65535<=l){m kk:List Nat}(hm:m.length=8)(hk:kk.length=8)(hs:∀e∈Xh kk m,e<=65535){all:List (List PL)}(slq:Sl lq all)(hall:all.length<1000000)(hi:all[i]? =some (x::y::z::u::mo kk))
  (hmul:E.pure 90 [.agg [d1,d2,d3,d4],.agg [x,y,z,u]]=some (.agg [z1,z2,z3,z4])) {es os rs:List (List PL)} (hwh:WhileR E lo (Xh kk m) es os ((q1::q2::q3::q4::mo n)::rs)) (h12:∀d∈es,d.length=12) (slp:Sl lp es) {o:List (List PL)} (hol:o.length+es.length<900000) (hK:es.length<K) (hos:os.length<=es.length)
  {r:Int} (hn:n.length=8) (hne:n≠Xh kk m) (hsg:E.pure 132 [.agg [z1,z2,z3,z4]]=some (.one (.int .i64 r))) (h0:eqF r (.ofNat 0)=false) (G:List Blk):
  ∃G' v' lp',Xa E K 0 [1,4,6,10,11,24,25,26] x105_3 (k+1) ⟨[(1,.one (.p lp)),(4,.one (.ptr 0 0 0 0)),(6,.one (.ptr 1 0 0 0)),(10,.one (.ptr 2 0 0 0)),(11,.one (.own 3 v 0 o.length)),(24,.one (.p lq)),(25,.one (.p (.int .i64 (.ofNat all.length)))),(26,.one (.p (.int .i64 (.ofNat i))))],dnB lo by_ l fst::tmK c1 c2 c3 c4 m::rtB d1 d2 d3 d4::trB v o::G⟩=
   Xa E K 0 [1,4,6,10,11,24,25,26] x105_3 k ⟨[(1,.one (.p lp')),(4,.one (.ptr 0 0 0 0)),(6,.one (.ptr 1 0 0 0)),(10,.one (.ptr 2 0 0 0)),(11,.one (.own 3 v' 0 (o.length+os.length+1))),(24,.one (.p lq)),(25,.one (.p (.int .i64 (.ofNat all.length)))),(26,.one (.p (.int .i64 (.ofNat (i+1)))))],dnB lo by_ l fst::tmK c1 c2 c3 c4 m::rtB d1 d2 d3 d4::trB v' ((o++os)++[z1::z2::z3::z4::mo (Xh kk m)])::G'⟩/\Sl lp' ((q1::q2::q3::q4::mo n)::rs):=by
 have hlt:i<all.length:=(Zb.mp hi).1
 have m8:=hm
 have k8:=hk
 have g8:(Xh kk m).length=8:=by simp[Xh,hm,hk]
 have tk:(moD kk).take 8=moD kk:=Ze (by rw[Xb];omega)
 have dk:(moD kk).drop 8=[]:=Zp (by rw[Xb];omega)
 have ta:(moD (Xh kk m)).take 8=moD (Xh kk m):=Ze (by rw[Xb];omega)
 have da:(moD (Xh kk m)).drop 8=[]:=Zp (by rw[Xb];omega)
 have ip:=fun(hh:HF) (kd:IntKind)=>slq.idx (h:=hh) (k:=kd) (sz:=12) hi (by simp[Xt,k8])
 have f1:Xd .i64 (.ofNat (i+1))=.ofNat (i+1):=wrap_i64 (by omega)
 have f2:(o.length+os.length+1)*128<=lim:=by unfold lim;omega
 have f3:o.length+os.length+1<=9223372036854775807:=by omega
 have w1:=Xx kk
 have w2:=Xx (Xh kk m)
 obtain⟨T1,hx,a1,a2,a3,a4,a5,a6,a7,a8,a9⟩:=exps_mo (K:=K) (by_:=by_) (fst:=fst) (lp:=lp) (c1:=c1) (c2:=c2) (c3:=c3) (c4:=c4) (x:=x) (y:=y) (z:=z) (u:=u) (lo:=lo) (s24:=.p lq) (s25:=.p (.int .i64 (.ofNat all.length))) (s26:=.p (.int .i64 (.ofNat i))) (v:=v) (n:=o.length) (B2:=rtB d1 d2 d3 d4) (B3:=trB v o) (G:=G) hmd hlim hm hk hs h9
 obtain⟨T2,G2,v',lp',hw,⟨e1,e2,e3,e4,e5,e6,e7,e8,e9⟩,slr⟩:=while_go (K:=K) (by_:=by_) (fst:=fst) (l:=l) (x2:=z1) (y2:=z2) (z2:=z3) (u2:=z4) (s24:=.p lq) (s25:=.p (.int .i64 (.ofNat all.length))) (s26:=.p (.int .i64 (.ofNat i))) (b1:=tmK c1 c2 c3 c4 m) (b2:=rtB d1 d2 d3 d4) hmd g8 G hwh h12 lp K v o [] slp (by omega) hK
 simp only[dnB,tmK,rtB,trB]at hx hw
 obtain rfl:=Sl.WL slr
 have hlr:=slr.len
 have ir:=fun(hh:HF) (kd:IntKind)=>slr.idx (h:=hh) (k:=kd) (i:=0) (sz:=12) rfl (by simp[Xt,hn])
 have l1:0<rs.length+1:=by omega
 have tn:(moD n).take 8=moD n:=Ze (by rw[Xb];omega)
 have dn:(moD n).drop 8=[]:=Zp (by rw[Xb];omega)
 have hba:=Ty hn g8
 rw[decide_eq_false hne]at hba
 apply Exists.intro;apply Exists.intro;refine⟨_,?_,slr⟩
 rw[Xa]
 simp(decide:=true)only[EVS,EVN,EVF,EVH,reduceIte,Nat.reduceEqDiff,Nat.reduceLeDiff,Nat.reduceAdd,x105_3,hmd,MDS,hlt,ip,f1,f2,f3,hmul,hx,a1,a2,a3,a4,a5,a6,a7,a8,a9,hw,e1,e2,e3,e4,e5,e6,e7,e8,e9,hlr,XT,Xb,Xt,k8,g8,tk,ta,Vn,XK,XS,Zq,Zm,XR,WK,hsg,h0,ir,l1,hba,tn,hn]
 rfl
theorem sub_eq {q1 q2 q3 q4:PL}{E:Oracle}{K k v i:Nat}(hmd:E.mode=md)(h9:9<=K){lo by_ fst lp lq c1 c2 c3 c4 d1 d2 d3 d4 x y z u z1 z2 z3 z4:PL}{l:Nat}(hlim:65535<=l){m kk:List Nat}(hm:m.length=8)(hk:kk.length=8)(hs:∀e∈Xh kk m,e<=65535){all:List (List PL)}(slq:Sl lq all)(hall:all.length<1000000)(hi:all[i]? =some (x::y::z::u::mo kk))
  (hmul:E.pure 90 [.agg [d1,d2,d3,d4],.agg [x,y,z,u]]=some (.agg [z1,z2,z3,z4])) {es os rs:List (List PL)} (hwh:WhileR E lo (Xh kk m) es os ((q1::q2::q3::q4::mo (Xh kk m))::rs)) (h12:∀d∈es,d.length=12) (slp:Sl lp es) {o:List (List PL)} (hol:o.length+es.length<900000) (hK:es.length<K) (hos:os.length<=es.length)
  {r:Int} {r1 r2 r3 r4:PL} (k12:∀d∈rs,d.length=12) (hadd:E.pure 129 [.agg [q1,q2,q3,q4],.agg [z1,z2,z3,z4]]=some (.agg [r1,r2,r3,r4])) (hsg:E.pure 132 [.agg [r1,r2,r3,r4]]=some (.one (.int .i64 r))) (h0:eqF r (.ofNat 0)=false) (G:List Blk):
  ∃G' v' lp',Xa E K 0 [1,4,6,10,11,24,25,26] x105_3 (k+1) ⟨[(1,.one (.p lp)),(4,.one (.ptr 0 0 0 0)),(6,.one (.ptr 1 0 0 0)),(10,.one (.ptr 2 0 0 0)),(11,.one (.own 3 v 0 o.length)),(24,.one (.p lq)),(25,.one (.p (.int .i64 (.ofNat all.length)))),(26,.one (.p (.int .i64 (.ofNat i))))],dnB lo by_ l fst::tmK c1 c2 c3 c4 m::rtB d1 d2 d3 d4::trB v o::G⟩=
   Xa E K 0 [1,4,6,10,11,24,25,26] x105_3 k ⟨[(1,.one (.p lp')),(4,.one (.ptr 0 0 0 0)),(6,.one (.ptr 1 0 0 0)),(10,.one (.ptr 2 0 0 0)),(11,.one (.own 3 v' 0 (o.length+os.length+1))),(24,.one (.p lq)),(25,.one (.p (.int .i64 (.ofNat all.length)))),(26,.one (.p (.int .i64 (.ofNat (i+1)))))],dnB lo by_ l fst::tmK c1 c2 c3 c4 m::rtB d1 d2 d3 d4::trB v' ((o++os)++[r1::r2::r3::r4::mo (Xh kk m)])::G'⟩/\Sl lp' rs:=by
 have hlt:i<all.length:=(Zb.mp hi).1
 have m8:=hm
 have k8:=hk
 have g8:(Xh kk m).length=8:=by simp[Xh,hm,hk]
 have tk:(moD kk).take 8=moD kk:=Ze (by rw[Xb];omega)
 have dk:(moD kk).drop 8=[]:=Zp (by rw[Xb];omega)
 have ta:(moD (Xh kk m)).take 8=moD (Xh kk m):=Ze (by rw[Xb];omega)
 have da:(moD (Xh kk m)).drop 8=[]:=Zp (by rw[Xb];omega)
 have ip:=fun(hh:HF) (kd:IntKind)=>slq.idx (h:=hh) (k:=kd) (sz:=12) hi (by simp[Xt,k8])
 have f1:Xd .i64 (.ofNat (i+1))=.ofNat (i+1):=wrap_i64 (by omega)
 have f2:(o.length+os.length+1)*128<=lim:=by unfold lim;omega
 have f3:o.length+os.length+1<=9223372036854775807:=by omega
 have w1:=Xx kk
 have w2:=Xx (Xh kk m)
 obtain⟨T1,hx,a1,a2,a3,a4,a5,a6,a7,a8,a9⟩:=exps_mo (K:=K) (by_:=by_) (fst:=fst) (lp:=lp) (c1:=c1) (c2:=c2) (c3:=c3) (c4:=c4) (x:=x) (y:=y) (z:=z) (u:=u) (lo:=lo) (s24:=.p lq) (s25:=.p (.int .i64 (.ofNat all.length))) (s26:=.p (.int .i64 (.ofNat i))) (v:=v) (n:=o.length) (B2:=rtB d1 d2 d3 d4) (B3:=trB v o) (G:=G) hmd hlim hm hk hs h9
 obtain⟨T2,G2,v',lp',hw,⟨e1,e2,e3,e4,e5,e6,e7,e8,e9⟩,slr⟩:=while_go (K:=K) (by_:=by_) (fst:=fst) (l:=l) (x2:=z1) (y2:=z2) (z2:=z3) (u2:=z4) (s24:=.p lq) (s25:=.p (.int .i64 (.ofNat all.length))) (s26:=.p (.int .i64 (.ofNat i))) (b1:=tmK c1 c2 c3 c4 m) (b2:=rtB d1 d2 d3 d4) hmd g8 G hwh h12 lp K v o [] slp (by omega) hK
 simp only[dnB,tmK,rtB,trB]at hx hw
 obtain rfl:=Sl.WL slr
 have hlr:=slr.len
 have hn:=g8
 have ir:=fun(hh:HF) (kd:IntKind)=>slr.idx (h:=hh) (k:=kd) (i:=0) (sz:=12) rfl (by simp[Xt,hn])
 have l1:0<rs.length+1:=by omega
 have tn:(moD (Xh kk m)).take 8=moD (Xh kk m):=Ze (by rw[Xb];omega)
 have dn:(moD (Xh kk m)).drop 8=[]:=Zp (by rw[Xb];omega)
 have hba:=Ty g8 g8
 rw[decide_eq_true rfl]at hba
 have j1:¬(G.length+(G2.length+1)<=G.length):=by omega
 have s1:=W6 (c:=q1::q2::q3::q4::mo (Xh kk m)) (es:=rs) k12
 apply Exists.intro;apply Exists.intro;refine⟨.lst rs,?_,.lst⟩
 rw[Xa]
 simp(decide:=true)only[EVS,EVN,EVF,EVH,reduceIte,Nat.reduceEqDiff,Nat.reduceLeDiff,Nat.reduceAdd,x105_3,hmd,MDS,hlt,ip,f1,f2,f3,hmul,hx,a1,a2,a3,a4,a5,a6,a7,a8,a9,hw,e1,e2,e3,e4,e5,e6,e7,e8,e9,hlr,XT,Xb,Xt,k8,g8,tk,ta,Vn,XK,XS,Zq,Zm,XR,WK,hadd,hsg,h0,ir,l1,hba,s1,j1]
 rfl
theorem sub_zero {q1 q2 q3 q4:PL}{E:Oracle}{K k v i:Nat}(hmd:E.mode=md)(h9:9<=K){lo by_ fst lp lq c1 c2 c3 c4 d1 d2 d3 d4 x y z u z1 z2 z3 z4:PL}{l:Nat}(hlim:65535<=l){m kk:List Nat}(hm:m.length=8)(hk:kk.length=8)(hs:∀e∈Xh kk m,e<=65535){all:List (List PL)}(slq:Sl lq all)(hall:all.length<1000000)(hi:all[i]? =some (x::y::z::u::mo kk))
  (hmul:E.pure 90 [.agg [d1,d2,d3,d4],.agg [x,y,z,u]]=some (.agg [z1,z2,z3,z4])) {es os rs:List (List PL)} (hwh:WhileR E lo (Xh kk m) es os ((q1::q2::q3::q4::mo (Xh kk m))::rs)) (h12:∀d∈es,d.length=12) (slp:Sl lp es) {o:List (List PL)} (hol:o.length+es.length<900000) (hK:es.length<K) (hos:os.length<=es.length)
  {r:Int} {r1 r2 r3 r4:PL} (k12:∀d∈rs,d.length=12) (hadd:E.pure 129 [.agg [q1,q2,q3,q4],.agg [z1,z2,z3,z4]]=some (.agg [r1,r2,r3,r4])) (hsg:E.pure 132 [.agg [r1,r2,r3,r4]]=some (.one (.int .i64 r))) (h0:eqF r (.ofNat 0)=true) (G:List Blk):
  ∃G' v' lp',Xa E K 0 [1,4,6,10,11,24,25,26] x105_3 (k+1) ⟨[(1,.one (.p lp)),(4,.one (.ptr 0 0 0 0)),(6,.one (.ptr 1 0 0 0)),(10,.one (.ptr 2 0 0 0)),(11,.one (.own 3 v 0 o.length)),(24,.one (.p lq)),(25,.one (.p (.int .i64 (.ofNat all.length)))),(26,.one (.p (.int .i64 (.ofNat i))))],dnB lo by_ l fst::tmK c1 c2 c3 c4 m::rtB d1 d2 d3 d4::trB v o::G⟩=
   Xa E K 0 [1,4,6,10,11,24,25,26] x105_3 k ⟨[(1,.one (.p lp')),(4,.one (.ptr 0 0 0 0)),(6,.one (.ptr 1 0 0 0)),(10,.one (.ptr 2 0 0 0)),(11,.one (.own 3 v' 0 (o.length+os.length))),(24,.one (.p lq)),(25,.one (.p (.int .i64 (.ofNat all.length)))),(26,.one (.p (.int .i64 (.ofNat (i+1)))))],dnB lo by_ l fst::tmK c1 c2 c3 c4 m::rtB d1 d2 d3 d4::trB v' ((o++os))::G'⟩/\Sl lp' rs:=by
 have hlt:i<all.length:=(Zb.mp hi).1
 have m8:=hm
 have k8:=hk
 have g8:(Xh kk m).length=8:=by simp[Xh,hm,hk]
 have tk:(moD kk).take 8=moD kk:=Ze (by rw[Xb];omega)
 have dk:(moD kk).drop 8=[]:=Zp (by rw[Xb];omega)
 have ta:(moD (Xh kk m)).take 8=moD (Xh kk m):=Ze (by rw[Xb];omega)
 have da:(moD (Xh kk m)).drop 8=[]:=Zp (by rw[Xb];omega)
 have ip:=fun(hh:HF) (kd:IntKind)=>slq.idx (h:=hh) (k:=kd) (sz:=12) hi (by simp[Xt,k8])
 have f1:Xd .i64 (.ofNat (i+1))=.ofNat (i+1):=wrap_i64 (by omega)
 have f2:(o.length+os.length+1)*128<=lim:=by unfold lim;omega
 have f3:o.length+os.length+1<=9223372036854775807:=by omega
 have w1:=Xx kk
 have w2:=Xx (Xh kk m)
 obtain⟨T1,hx,a1,a2,a3,a4,a5,a6,a7,a8,a9⟩:=exps_mo (K:=K) (by_:=by_) (fst:=fst) (lp:=lp) (c1:=c1) (c2:=c2) (c3:=c3) (c4:=c4) (x:=x) (y:=y) (z:=z) (u:=u) (lo:=lo) (s24:=.p lq) (s25:=.p (.int .i64 (.ofNat all.length))) (s26:=.p (.int .i64 (.ofNat i))) (v:=v) (n:=o.length) (B2:=rtB d1 d2 d3 d4) (B3:=trB v o) (G:=G) hmd hlim hm hk hs h9
 obtain⟨T2,G2,v',lp',hw,⟨e1,e2,e3,e4,e5,e6,e7,e8,e9⟩,slr⟩:=while_go (K:=K) (by_:=by_) (fst:=fst) (l:=l) (x2:=z1) (y2:=z2) (z2:=z3) (u2:=z4) (s24:=.p lq) (s25:=.p (.int .i64 (.ofNat all.length))) (s26:=.p (.int .i64 (.ofNat i))) (b1:=tmK c1 c2 c3 c4 m) (b2:=rtB d1 d2 d3 d4) hmd g8 G hwh h12 lp K v o [] slp (by omega) hK
 simp only[dnB,tmK,rtB,trB]at hx hw
 obtain rfl:=Sl.WL slr
 have hlr:=slr.len
 have hn:=g8
 have ir:=fun(hh:HF) (kd:IntKind)=>slr.idx (h:=hh) (k:=kd) (i:=0) (sz:=12) rfl (by simp[Xt,hn])
 have l1:0<rs.length+1:=by omega
 have tn:(moD (Xh kk m)).take 8=moD (Xh kk m):=Ze (by rw[Xb];omega)
 have dn:(moD (Xh kk m)).drop 8=[]:=Zp (by rw[Xb];omega)
 have hba:=Ty g8 g8
 rw[decide_eq_true rfl]at hba
 have j1:¬(G.length+(G2.length+1)<=G.length):=by omega
 have s1:=W6 (c:=q1::q2::q3::q4::mo (Xh kk m)) (es:=rs) k12
 apply Exists.intro;apply Exists.intro;refine⟨.lst rs,?_,.lst⟩
 rw[Xa]
 simp(decide:=true)only[EVS,EVN,EVF,EVH,reduceIte,Nat.reduceEqDiff,Nat.reduceLeDiff,Nat.reduceAdd,x105_3,hmd,MDS,hlt,ip,f1,hmul,hx,a1,a2,a3,a4,a5,a6,a7,a8,a9,hw,e1,e2,e3,e4,e5,e6,e7,e8,e9,hlr,XT,Xb,Xt,k8,g8,tk,ta,XK,XS,Zm,hadd,hsg,h0,ir,l1,hba,s1,j1]
 rfl
inductive SubR (E:Oracle)(lo:PL)(d:List PL)(m:List Nat):List (List PL)->List (List PL)->List (List PL)->List (List PL)->Prop
 |nil {es:List (List PL)}:SubR E lo d m es [] [] es
 |none {x y z u z1 z2 z3 z4:PL} {kk:List Nat} {es os qs pre rest:List (List PL)} {r:Int} (hk:kk.length=8) (hs:∀e∈Xh kk m,e<=65535) (hmul:E.pure 90 [.agg d,.agg [x,y,z,u]]=some (.agg [z1,z2,z3,z4])) (hwh:WhileR E lo (Xh kk m) es os [])
   (hsg:E.pure 132 [.agg [z1,z2,z3,z4]]=some (.one (.int .i64 r))) (h0:eqF r (.ofNat 0)=false) (h:SubR E lo d m [] qs pre rest):SubR E lo d m es ((x::y::z::u::mo kk)::qs) (os++(z1::z2::z3::z4::mo (Xh kk m))::pre) rest
 |diff {x y z u z1 z2 z3 z4 q1 q2 q3 q4:PL} {kk n:List Nat} {es os rs qs pre rest:List (List PL)} {r:Int} (hk:kk.length=8) (hs:∀e∈Xh kk m,e<=65535) (hmul:E.pure 90 [.agg d,.agg [x,y,z,u]]=some (.agg [z1,z2,z3,z4])) (hwh:WhileR E lo (Xh kk m) es os ((q1::q2::q3::q4::mo n)::rs))
   (hn:n.length=8) (hne:n≠Xh kk m) (hsg:E.pure 132 [.agg [z1,z2,z3,z4]]=some (.one (.int .i64 r))) (h0:eqF r (.ofNat 0)=false) (h:SubR E lo d m ((q1::q2::q3::q4::mo n)::rs) qs pre rest):
   SubR E lo d m es ((x::y::z::u::mo kk)::qs) (os++(z1::z2::z3::z4::mo (Xh kk m))::pre) rest
 |eq {x y z u z1 z2 z3 z4 q1 q2 q3 q4 r1 r2 r3 r4:PL} {kk:List Nat} {es os rs qs pre rest:List (List PL)} {r:Int} (hk:kk.length=8) (hs:∀e∈Xh kk m,e<=65535) (hmul:E.pure 90 [.agg d,.agg [x,y,z,u]]=some (.agg [z1,z2,z3,z4])) (hwh:WhileR E lo (Xh kk m) es os ((q1::q2::q3::q4::mo (Xh kk m))::rs))
   (hadd:E.pure 129 [.agg [q1,q2,q3,q4],.agg [z1,z2,z3,z4]]=some (.agg [r1,r2,r3,r4])) (hsg:E.pure 132 [.agg [r1,r2,r3,r4]]=some (.one (.int .i64 r))) (h0:eqF r (.ofNat 0)=false) (h:SubR E lo d m rs qs pre rest):
   SubR E lo d m es ((x::y::z::u::mo kk)::qs) (os++(r1::r2::r3::r4::mo (Xh kk m))::pre) rest
 |zero {x y z u z1 z2 z3 z4 q1 q2 q3 q4 r1 r2 r3 r4:PL} {kk:List Nat} {es os rs qs pre rest:List (List PL)} {r:Int} (hk:kk.length=8) (hs:∀e∈Xh kk m,e<=65535) (hmul:E.pure 90 [.agg d,.agg [x,y,z,u]]=some (.agg [z1,z2,z3,z4])) (hwh:WhileR E lo (Xh kk m) es os ((q1::q2::q3::q4::mo (Xh kk m))::rs))
   (hadd:E.pure 129 [.agg [q1,q2,q3,q4],.agg [z1,z2,z3,z4]]=some (.agg [r1,r2,r3,r4])) (hsg:E.pure 132 [.agg [r1,r2,r3,r4]]=some (.one (.int .i64 r))) (h0:eqF r (.ofNat 0)=true) (h:SubR E lo d m rs qs pre rest):
   SubR E lo d m es ((x::y::z::u::mo kk)::qs) (os++pre) rest
theorem WhileR.app {E:Oracle}{lo:PL}{mm:List Nat}{es os rs:List (List PL)}(h:WhileR E lo mm es os rs):es=os++rs:=by
 induction h with
 |stopN=>rfl
 |stop=>rfl
 |go hm h1 h ih=>rw[ih];rfl
theorem sub_go {E:Oracle}{K:Nat}(hmd:E.mode=md)(h9:9<=K){lo by_ fst lq c1 c2 c3 c4 d1 d2 d3 d4:PL}{l:Nat}(hlim:65535<=l){m:List Nat}(hm:m.length=8){all:List (List PL)}(slq:Sl lq all)(hall:all.length<400000){es qs pre rest:List (List PL)}(h:SubR E lo [d1,d2,d3,d4] m es qs pre rest):
  (∀d∈es,d.length=12)->∀(lp:PL) (i k v:Nat) (o:List (List PL)) (G:List Blk),Sl lp es->all.drop i=qs->i+qs.length=all.length->o.length+es.length+qs.length<900000->es.length<K->qs.length<k->
  ∃T' G' v' lp',Xa E K 0 [1,4,6,10,11,24,25,26] x105_3 k ⟨[(1,.one (.p lp)),(4,.one (.ptr 0 0 0 0)),(6,.one (.ptr 1 0 0 0)),(10,.one (.ptr 2 0 0 0)),(11,.one (.own 3 v 0 o.length)),(24,.one (.p lq)),(25,.one (.p (.int .i64 (.ofNat all.length)))),(26,.one (.p (.int .i64 (.ofNat i))))],dnB lo by_ l fst::tmK c1 c2 c3 c4 m::rtB d1 d2 d3 d4::trB v o::G⟩=
   some (.exit 0,⟨T',dnB lo by_ l fst::tmK c1 c2 c3 c4 m::rtB d1 d2 d3 d4::trB v' (o++pre)::G'⟩)/\(Xf T' 1=some (.one (.p lp'))/\Xf T' 11=some (.one (.own 3 v' 0 (o++pre).length)))/\Sl lp' rest/\(∀d∈rest,d.length=12):=by
 induction h with
 |@nil es=>
  intro h12 lp i k v o G sp hd hi ho hK hk
  obtain⟨k,rfl⟩:∃k',k=k'+1:=⟨k-1,by omega⟩
  have hlt:¬i<all.length:=by simp at hi;omega
  have :∃T',Xa E K 0 [1,4,6,10,11,24,25,26] x105_3 (k+1) ⟨[(1,.one (.p lp)),(4,.one (.ptr 0 0 0 0)),(6,.one (.ptr 1 0 0 0)),(10,.one (.ptr 2 0 0 0)),(11,.one (.own 3 v 0 o.length)),(24,.one (.p lq)),(25,.one (.p (.int .i64 (.ofNat all.length)))),(26,.one (.p (.int .i64 (.ofNat i))))],dnB lo by_ l fst::tmK c1 c2 c3 c4 m::rtB d1 d2 d3 d4::trB v o::G⟩=
   some (.exit 0,⟨T',dnB lo by_ l fst::tmK c1 c2 c3 c4 m::rtB d1 d2 d3 d4::trB v o::G⟩)/\(Xf T' 1=some (.one (.p lp))/\Xf T' 11=some (.one (.own 3 v 0 o.length))):=by
   apply ex1
   ·rw[Xa]
    simp only[EVS,EVN,reduceIte,Nat.reduceEqDiff,x105_3,hlt]
    rfl
   ·refine⟨?_,?_⟩<;>simp only[EVS,reduceIte,Nat.reduceEqDiff]
  obtain⟨T',g1,g2⟩:=this
  exact⟨T',G,v,lp,by rw[ZO];exact g1,by rw[ZO];exact g2,sp,h12⟩
 |@none x y z u z1 z2 z3 z4 kk es os qs pre rest r hk hs hmul hwh hsg h0 h ih=>
  intro h12 lp i k v o G sp hd hi ho hK hkk
  obtain⟨k,rfl⟩:∃k',k=k'+1:=⟨k-1,by omega⟩
  simp only[Zi]at hi ho hkk
  obtain⟨gp,dp⟩:=Xq hd
  have ea:=hwh.app
  have el:es.length=os.length+0:=by rw[ea];simp
  obtain⟨G1,v1,lp1,g1,sp1⟩:=sub_nil (rs:=[]) (k:=k) (v:=v) (by_:=by_) (fst:=fst) (c1:=c1) (c2:=c2) (c3:=c3) (c4:=c4) (o:=o) hmd h9 hlim hm hk hs slq (by omega) gp hmul hwh h12 sp (by omega) hK (by omega) hsg h0 G
  obtain⟨T',G',v',lp',g2,g3,g4⟩:=ih (fun _ hd=>by cases hd) lp1 (i+1) k v1 (o++os++[z1::z2::z3::z4::mo (Xh kk m)]) G1 sp1 dp (by omega) (by simp;omega) (by simp;omega) (by omega)
  rw[show(o++os++[z1::z2::z3::z4::mo (Xh kk m)]).length=o.length+os.length+1 by simp;omega]at g2
  rw[show o++os++[z1::z2::z3::z4::mo (Xh kk m)]++pre=o++(os++(z1::z2::z3::z4::mo (Xh kk m))::pre)by simp]at g2 g3
  exact⟨T',G',v',lp',g1.trans g2,g3,g4⟩
 |@diff x y z u z1 z2 z3 z4 q1 q2 q3 q4 kk n es os rs qs pre rest r hk hs hmul hwh hn hne hsg h0 h ih=>
  intro h12 lp i k v o G sp hd hi ho hK hkk
  obtain⟨k,rfl⟩:∃k',k=k'+1:=⟨k-1,by omega⟩
  simp only[Zi]at hi ho hkk
  obtain⟨gp,dp⟩:=Xq hd
  have ea:=hwh.app
  have el:es.length=os.length+(rs.length+1):=by rw[ea];simp
  obtain⟨G1,v1,lp1,g1,sp1⟩:=sub_diff (k:=k) (v:=v) (by_:=by_) (fst:=fst) (c1:=c1) (c2:=c2) (c3:=c3) (c4:=c4) (o:=o) hmd h9 hlim hm hk hs slq (by omega) gp hmul hwh h12 sp (by omega) hK (by omega) hn hne hsg h0 G
  obtain⟨T',G',v',lp',g2,g3,g4⟩:=ih (fun d hd=>h12 d (by rw[ea];exact List.mem_append_right _ hd)) lp1 (i+1) k v1 (o++os++[z1::z2::z3::z4::mo (Xh kk m)]) G1 sp1 dp (by omega) (by simp;omega) (by simp;omega) (by omega)
  rw[show(o++os++[z1::z2::z3::z4::mo (Xh kk m)]).length=o.length+os.length+1 by simp;omega]at g2
  rw[show o++os++[z1::z2::z3::z4::mo (Xh kk m)]++pre=o++(os++(z1::z2::z3::z4::mo (Xh kk m))::pre)by simp]at g2 g3
  exact⟨T',G',v',lp',g1.trans g2,g3,g4⟩
 |@eq x y z u z1 z2 z3 z4 q1 q2 q3 q4 r1 r2 r3 r4 kk es os rs qs pre rest r hk hs hmul hwh hadd hsg h0 h ih=>
  intro h12 lp i k v o G sp hd hi ho hK hkk
  obtain⟨k,rfl⟩:∃k',k=k'+1:=⟨k-1,by omega⟩
  simp only[Zi]at hi ho hkk
  obtain⟨gp,dp⟩:=Xq hd
  have ea:=hwh.app
  have el:es.length=os.length+(rs.length+1):=by rw[ea];simp
  have k12:∀d∈rs,d.length=12:=fun d hd=>h12 d (by rw[ea];exact List.mem_append_right _ (Zc _ hd))
  obtain⟨G1,v1,lp1,g1,sp1⟩:=sub_eq (k:=k) (v:=v) (by_:=by_) (fst:=fst) (c1:=c1) (c2:=c2) (c3:=c3) (c4:=c4) (o:=o) hmd h9 hlim hm hk hs slq (by omega) gp hmul hwh h12 sp (by omega) hK (by omega) k12 hadd hsg h0 G
  obtain⟨T',G',v',lp',g2,g3,g4⟩:=ih k12 lp1 (i+1) k v1 (o++os++[r1::r2::r3::r4::mo (Xh kk m)]) G1 sp1 dp (by omega) (by simp;omega) (by omega) (by omega)
  rw[show(o++os++[r1::r2::r3::r4::mo (Xh kk m)]).length=o.length+os.length+1 by simp;omega]at g2
  rw[show o++os++[r1::r2::r3::r4::mo (Xh kk m)]++pre=o++(os++(r1::r2::r3::r4::mo (Xh kk m))::pre)by simp]at g2 g3
  exact⟨T',G',v',lp',g1.trans g2,g3,g4⟩
 |@zero x y z u z1 z2 z3 z4 q1 q2 q3 q4 r1 r2 r3 r4 kk es os rs qs pre rest r hk hs hmul hwh hadd hsg h0 h ih=>
  intro h12 lp i k v o G sp hd hi ho hK hkk
  obtain⟨k,rfl⟩:∃k',k=k'+1:=⟨k-1,by omega⟩
  simp only[Zi]at hi ho hkk
  obtain⟨gp,dp⟩:=Xq hd
  have ea:=hwh.app
  have el:es.length=os.length+(rs.length+1):=by rw[ea];simp
  have k12:∀d∈rs,d.length=12:=fun d hd=>h12 d (by rw[ea];exact List.mem_append_right _ (Zc _ hd))
  obtain⟨G1,v1,lp1,g1,sp1⟩:=sub_zero (k:=k) (v:=v) (by_:=by_) (fst:=fst) (c1:=c1) (c2:=c2) (c3:=c3) (c4:=c4) (o:=o) hmd h9 hlim hm hk hs slq (by omega) gp hmul hwh h12 sp (by omega) hK (by omega) k12 hadd hsg h0 G
  obtain⟨T',G',v',lp',g2,g3,g4⟩:=ih k12 lp1 (i+1) k v1 (o++os) G1 sp1 dp (by omega) (by simp;omega) (by omega) (by omega)
  rw[show(o++os).length=o.length+os.length by simp]at g2
  rw[Zq]at g2 g3
  exact⟨T',G',v',lp',g1.trans g2,g3,g4⟩
end Go.Proofs.YtefpgecinlekpaaGreat
namespace Go.Num
def WE (o:List (List Int))(mm:List Nat):List Qm->List Qm×List Qm
 |[]=>([],[])
 |s::p=>if Wd o s.2 mm=.ofNat 1 then(s::(WE o mm p).1,(WE o mm p).2)else([],s::p)
def Uj (o:List (List Int))(c:Rat)(m:List Nat):List Qm->List Qm->List Qm
 |p,[]=>p
 |p,t::q=>match WE o (Xh t.2 m) p with
  |(os,[])=>os++(c*t.1,Xh t.2 m)::Uj o c m [] q
  |(os,s::rs)=>if s.2=Xh t.2 m then(if s.1+c*t.1=0 then os++Uj o c m rs q else os++(s.1+c*t.1,Xh t.2 m)::Uj o c m rs q)else os++(c*t.1,Xh t.2 m)::Uj o c m (s::rs) q
end Go.Num
namespace Go.Proofs.YtefpgecinlekpaaGreat
open Go.Ev Go.Num
theorem while_evt {B:Base}(hB:Std B){lo:PL}{o:List (List Int)}(so:IsO lo o)(ho:Tj o)(hol:o.length<1000000){mm:List Nat}(hmm:XF mm):∀{es:List (List PL)} {p:List Qm},XJ es p->∃os rs,(Evt B fun E _=>WhileR E lo mm es os rs)/\XJ os (WE o mm p).1/\XJ rs (WE o mm p).2
 |_,_,.nil=>⟨[],[],Evt.of fun _ _=>.stopN,.nil,.nil⟩
 |_,_,.cons (x:=c) (y:=s) hs h=>by
  have hs':=hs
  obtain⟨n,a,d,b,rfl,q,hm⟩:=hs'
  have hc:=pcmpO_ret hB so ho hm hmm hol
  unfold WE
  by_cases h1:Wd o s.2 mm=.ofNat 1
  ·rw[if_pos h1]
   rw[h1]at hc
   obtain⟨os,rs,g1,g2,g3⟩:=while_evt hB so ho hol hmm h
   exact⟨_,rs,(g1.and hc.evt).mono fun E K ⟨e1,e2⟩=>.go hm.1 e2 e1,.cons hs g2,g3⟩
  ·rw[if_neg h1]
   refine⟨[],_,hc.evt.mono fun E K e=>.stop hm.1 e ?_,.nil,.cons hs h⟩
   rcases Vm o s.2 mm with h2|h2|h2
   ·exact absurd h2 h1
   ·rw[h2];rfl
   ·rw[h2];rfl
theorem Sz.sub {ts us:List Qm}(h:Sz ts)(hs:∀t∈us,t∈ts):Sz us:=fun t ht=>h t (hs t ht)
theorem SR (o:List (List Int))(mm:List Nat):∀p,(WE o mm p).1++(WE o mm p).2=p
 |[]=>rfl
 |s::p=>by
  unfold WE
  split
  ·rw[ZR,SR o mm p]
  ·rfl
theorem sub_evt {B:Base}(hB:Std B){lo:PL}{o:List (List Int)}(so:IsO lo o)(ho:Tj o)(hol:o.length<1000000){d:List PL}{c:Rat}(hd:IsQ d c)(hc:Sq c)(c0:c≠0){m:List Nat}(hm:XF m):∀{qs:List (List PL)} {q:List Qm},XJ qs q->Sz q->(∀t∈q,XF (Xh t.2 m)/\t.1≠0/\Sq (c*t.1))->
  ∀{es:List (List PL)} {p:List Qm},XJ es p->Sz p->∃pre rest,(Evt B fun E _=>SubR E lo d m es qs pre rest)/\XJ (pre++rest) (Uj o c m p q)
 |_,_,.nil,_,_,es,p,hp,_=>⟨[],es,Evt.of fun _ _=>.nil,hp⟩
 |_,_,.cons (x:=x) (y:=t) (ys:=q) ht h,hz,hq,es,p,hp,zp=>by
  obtain⟨h1,h2,h3⟩:=hq t (Zh ..)
  have hq':∀t∈q,XF (Xh t.2 m)/\t.1≠0/\Sq (c*t.1):=fun u hu=>hq u (Zc _ hu)
  obtain⟨os,rs,g1,g2,g3⟩:=while_evt hB so ho hol h1 hp
  have happ:=SR o (Xh t.2 m) p
  have ht':=ht
  obtain⟨n,a,e,b,rfl,qq,hk⟩:=ht'
  obtain⟨w,k1,k2⟩:=ratMul_q hB hd qq hc hz.head
  have hct:c*t.1≠0:=fun h=>(Rat.mul_eq_zero.1 h).elim c0 h2
  have k3:=ratSign_q hB k2
  have k0:=sgnF hct
  obtain⟨n1,a1,d1,b1,rfl⟩:=k2.len
  unfold Uj
  generalize hsp:WE o (Xh t.2 m) p=sp at g2 g3 happ
  obtain⟨P,R⟩:=sp
  cases g3 with
  |nil=>
   obtain⟨pre,rest,j1,j2⟩:=sub_evt hB so ho hol hd hc c0 hm h hz.tail hq' (es:=[]) (p:=[]) .nil Sz.nil
   refine⟨_,rest,(g1.and (k1.evt.and (k3.evt.and j1))).mono fun E K ⟨e1,e2,e3,e4⟩=>.none hk.1 h1.2 e2 e1 e3 k0 e4,?_⟩
   rw[Zq,ZR]
   exact g2.append (.cons (VT.mk k2 h1) j2)
  |@cons r s rs R hr hR=>
   have zR:Sz (s::R):=zp.sub fun u hu=>by rw[<-happ];exact List.mem_append_right _ hu
   have hr':=hr
   obtain⟨n2,a2,d2,b2,rfl,q2,hk2⟩:=hr'
   show∃pre rest,_/\XJ (pre++rest) (if s.2=Xh t.2 m then(if s.1+c*t.1=0 then P++Uj o c m R _ else P++(s.1+c*t.1,Xh t.2 m)::Uj o c m R _)else P++(c*t.1,Xh t.2 m)::Uj o c m (s::R) _)
   by_cases he:s.2=Xh t.2 m
   ·rw[if_pos he]
    obtain⟨s1,s2⟩:=s
    simp only at he
    subst he
    obtain⟨v,v1,v2⟩:=ratAdd_q hB q2 k2 zR.head h3
    have v3:=ratSign_q hB v2
    obtain⟨n3,a3,d3,b3,rfl⟩:=v2.len
    obtain⟨pre,rest,j1,j2⟩:=sub_evt hB so ho hol hd hc c0 hm h hz.tail hq' hR zR.tail
    by_cases h0:s1+c*t.1=0
    ·rw[if_pos h0]
     simp only[h0]at v3
     refine⟨_,rest,(g1.and (k1.evt.and (v1.evt.and (v3.evt.and j1)))).mono fun E K ⟨e1,e2,e3,e4,e5⟩=>.zero hk.1 h1.2 e2 e1 e3 e4 sgnT e5,?_⟩
     rw[Zq]
     exact g2.append j2
    ·rw[if_neg h0]
     refine⟨_,rest,(g1.and (k1.evt.and (v1.evt.and (v3.evt.and j1)))).mono fun E K ⟨e1,e2,e3,e4,e5⟩=>.eq hk.1 h1.2 e2 e1 e3 e4 (sgnF h0) e5,?_⟩
     rw[Zq,ZR]
     exact g2.append (.cons (VT.mk v2 h1) j2)
   ·rw[if_neg he]
    obtain⟨pre,rest,j1,j2⟩:=sub_evt hB so ho hol hd hc c0 hm h hz.tail hq' (.cons hr hR) zR
    refine⟨_,rest,(g1.and (k1.evt.and (k3.evt.and j1))).mono fun E K ⟨e1,e2,e3,e4⟩=>.diff hk.1 h1.2 e2 e1 hk2.1 he e3 k0 e4,?_⟩
    rw[Zq,ZR]
    exact g2.append (.cons (VT.mk k2 h1) j2)
theorem subO_len (o:List (List Int))(c:Rat)(m:List Nat):∀(q p:List Qm),(Uj o c m p q).length<=p.length+q.length
 |[],p=>by simp[Uj]
 |t::q,p=>by
  have happ:=congrArg List.length (SR o (Xh t.2 m) p)
  rw[Zm]at happ
  unfold Uj
  generalize WE o (Xh t.2 m) p=sp at happ
  obtain⟨P,R⟩:=sp
  cases R with
  |nil=>
   have:=subO_len o c m q []
   simp only[Zm,Zi,Zw]at happ this⊢;omega
  |cons s R=>
   have h1:=subO_len o c m q R
   have h2:=subO_len o c m q (s::R)
   simp only[Zi]at happ h2⊢
   split
   ·split<;>simp only[Zm,Zi]<;>omega
   ·simp only[Zm,Zi];omega
theorem subtract_ret {B:Base}(hB:Std B){lo by_ fst:PL}{l:Nat}(hlim:65535<=l){o:List (List Int)}(so:IsO lo o)(ho:Tj o)(hol:o.length<1000000){sc:List PL}{s:Qm}(hs:VT sc s)(zs:Sq s.1)(s0:s.1≠0){lp lq:PL}{p q:List Qm}(hp:PQ lp p)(zp:Sz p)(hq:PQ lq q)(zq:Sz q)
  (hqs:∀t∈q,XF (Xh t.2 s.2)/\t.1≠0/\Sq (-s.1*t.1)) (l1:p.length<400000) (l2:q.length<400000):
  ∃outs,Ret B 105 [.agg [lo,by_,.int .i64 (.ofNat l),fst],.one lp,.agg sc,.one lq] (.tup [.one (.lst outs),.one (.bool true)])/\XJ outs (Uj o (-s.1) s.2 p q):=by
 obtain⟨es,sp,hp⟩:=hp
 obtain⟨qs,sq,hq⟩:=hq
 have elp:=hp.length
 have elq:=hq.length
 obtain⟨c1,c2,c3,c4,rfl,hc,hm⟩:=hs
 obtain⟨d,h1,h2⟩:=ratNeg_q hB hc zs
 have n0: -s.1≠0:=fun h=>s0 (by rw[<-Rat.neg_neg s.1,h];rfl)
 obtain⟨pre,rest,g1,g2⟩:=sub_evt hB so ho hol h2 zs.neg n0 hm hq zq hqs hp zp
 obtain⟨n,a,e,b,rfl⟩:=h2.len
 refine⟨pre++rest,Ret.of (hB.tab _ _ rfl) ((g1.and (h1.evt.and (hB.evt.and (Evt.ge (es.length+qs.length+10))))).mono fun E K ⟨e1,e2,hmd,hK⟩=> ?_),g2⟩
 obtain⟨T',G',v',lp',k1,⟨k2,k3⟩,k4,k5⟩:=sub_go (K:=K) (by_:=by_) (fst:=fst) (c1:=.bool c1) (c2:=c2) (c3:=.bool c3) (c4:=c4) hmd (by omega) hlim hm.1 sq (by omega) e1 (fun d hd=>Sa.len (XJ.forms hp d hd)) lp 0 K 0 [] [] sp rfl (by omega) (by simp;omega) (by omega) (by omega)
 rw[ZL]at k1 k3
 have m8:=hm.1
 have tm:(moD s.2).take 8=moD s.2:=Ze (by rw[Xb];omega)
 have f0:Xd .i64 (.ofNat (es.length+qs.length))=.ofNat (es.length+qs.length):=wrap_i64 (by omega)
 have f1:128*(es.length+qs.length)<=lim:=by unfold lim;omega
 have f2:es.length+qs.length<=9223372036854775807:=by omega
 have w1:=Xx s.2
 have hcp:=fun h=>k4.chunks (h:=h)
 have hpl:=g2.length
 have hsl:=subO_len o (-s.1) s.2 q p
 rw[Zm]at hpl
 have f3:(pre.length+rest.length)*128<=lim:=by unfold lim;omega
 have f4:pre.length+rest.length<=9223372036854775807:=by omega
 have f5:(rest.map (·.map DL.p)).all (fun c=>decide (c.length=12))=true:=by
  rw[ZP]
  intro c hc
  simp only[ZM]at hc
  obtain⟨d,hd,rfl⟩:=hc
  simp[k5 d hd]
 have f6:(rest.map (·.map DL.p)).length=rest.length:=by simp
 have ht:=V5 (pre++rest) (Zg _)
 have hf:=fun h=>Uv 5 h (pre++rest)
 have hpa:=pc_app pre rest
 rw[Zm]at ht
 simp only[Zw,dnB,tmK,rtB,trB,pc,ZZ]at k1
 simp only[pc]at ht hf hpa
 simp only[EVS,EVN,EVF,reduceIte,Nat.reduceEqDiff,Nat.reduceLeDiff,Nat.reduceAdd,Zr,x105,sp.len,sq.len,hmd,MDS,XT,Xb,m8,e2,f0,f1,f2,k1,k2,k3,hcp,f3,f4,f5,f6,hpa,ht,hf,ZU,Zm,Zg]
end Go.Proofs.YtefpgecinlekpaaGreat
