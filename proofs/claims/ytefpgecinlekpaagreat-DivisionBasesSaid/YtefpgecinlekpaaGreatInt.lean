/- Package integer: words. -/
import Derived.Test.YtefpgecinlekpaaGreatStd
namespace Go.Proofs.YtefpgecinlekpaaGreat
open Go.Ev Go.Num
theorem trim_loop {E:Oracle}{K:Nat}{l:PL}{ws:List Nat}(s:SlW l ws)(hl:ws.length<9223372036854775808):∀(n k:Nat) (H:List Blk),n<k->n<=ws.length->
  ∃T',Xa E K 0 [0,3] x187_1 k ⟨[(0,.one (.p l)),(3,.one (.p (.int .i64 (.ofNat n))))],H⟩=some (.exit 0,⟨T',H⟩)/\Xf T' 0=some (.one (.p l))/\Xf T' 3=some (.one (.p (.int .i64 (.ofNat (Wr (ws.take n)).length))))
 |_,0,_,h,_=>by omega
 |0,k+1,H,_,_=>by
  apply ex1
  ·rw[Xa]
   simp only[EVS,EVN,reduceIte,Nat.reduceEqDiff,x187_1,ZA]
   rfl
  ·simp only[EVS,reduceIte,Nat.reduceEqDiff,Wr,and_self]
 |n+1,k+1,H,hk,hn=>by
  obtain⟨w,hw⟩:∃w,ws[n]? =some w:=⟨_,Zf (by omega)⟩
  have h1:Xd .i64 (Int.ofNat (n+1)-Int.ofNat 1)=Int.ofNat n:=XI (by omega) (by omega)
  rw[take_snoc hw,trim_snoc]
  by_cases h0:w=0
  ·subst h0
   obtain⟨T',g1,g2⟩:=trim_loop s hl n k H (by omega) (by omega)
   refine⟨T',?_,g2⟩
   rw[Xa]
   simp only[EVS,EVN,reduceIte,Nat.reduceEqDiff,x187_1,YA,h1,s.idx hw]
   exact g1
  ·apply ex1
   ·rw[Xa]
    simp only[EVS,EVN,reduceIte,Nat.reduceEqDiff,x187_1,YA,h1,s.idx hw,h0]
    rfl
   ·simp only[EVS,reduceIte,Nat.reduceEqDiff,h0,Zm,ZK,Yg (show n<=ws.length by omega),and_self]
theorem U2 {B:Base}(hB:Std B){ws:List Nat}(hl:ws.length<9223372036854775808):Ret B 187 [.one (.lst (wsP ws))] (.one (.lst (wsP (Wr ws)))):=by
 have s:SlW (.lst (wsP ws)) ws:=.lst
 refine Ret.of (hB.tab _ _ rfl) ((Evt.ge (ws.length+1)).mono fun E K hK=> ?_)
 obtain⟨T',g1,g2,g3⟩:=trim_loop (E:=E) (K:=K) s hl ws.length K [] (by omega) (Zg _)
 rw[Yc]at g3
 have h1:∀h,X6 1 h (.p (.lst (wsP ws))) 0 (some (Wr ws).length)=some (.p (.lst (wsP (Wr ws))),[]):=by
  intro h
  obtain⟨r,h1,h2⟩:=s.upto (n:=(Wr ws).length) (trim_len ws)
  have:=h1 h
  rw[<-trim_eq]at h2
  rcases h2 with rfl|⟨-,rfl⟩
  ·exact this
  ·simp only[X6]at this
   obtain⟨-,h3⟩:=Xk this
   simp at h3
 simp only[EVS,EVN,reduceIte,Nat.reduceEqDiff,Nat.reduceLeDiff,x187,s.len,g1,g2,g3,h1]
theorem trim_ret {B:Base}(hB:Std B){l:PL}{ws:List Nat}(s:SlW l ws)(hl:ws.length<9223372036854775808):∃r,Ret B 187 [.one l] (.one r)/\SlW r (Wr ws):=by
 obtain⟨r,h1,h2⟩:=s.upto (n:=(Wr ws).length) (trim_len ws)
 rw[<-trim_eq]at h2
 refine⟨r,Ret.of (hB.tab _ _ rfl) ((Evt.ge (ws.length+1)).mono fun E K hK=> ?_),h2⟩
 obtain⟨T',g1,g2,g3⟩:=trim_loop (E:=E) (K:=K) s hl ws.length K [] (by omega) (Zg _)
 rw[Yc]at g3
 simp only[EVS,EVN,reduceIte,Nat.reduceEqDiff,Nat.reduceLeDiff,x187,s.len,g1,g2,g3,h1]
theorem sum_loop {E:Oracle}{K:Nat}{la lb:PL}{a b:List Nat}(sa:SlW la a)(sb:SlW lb b)(da:Dig a)(db:Dig b)(hab:b.length<=a.length)(hl:a.length<1000000000000)(t:Nat):
  ∀(d i k:Nat) (r:List Nat) (cy:Nat),i+d=a.length->d<k->r.length=a.length+1->Dig r->cy<2->(∀j,i<=j->j<=a.length->r[j]? =some 0)->val r+cy*4294967296^i=val (a.take i)+val (b.take i)->
  ∃T' r' cy',Xa E K 0 [0,1,5,6,21,22] x184_1 k ⟨[(0,.one (.p la)),(1,.one (.p lb)),(5,.one (.own 0 0 0 (a.length+1))),(6,.one (.p (.int .u64 (.ofNat cy)))),(21,.one (.p (.int .i64 (.ofNat a.length)))),(22,.one (.p (.int .i64 (.ofNat i))))],[⟨false,0,1,wsD r,false,t⟩]⟩=some (.exit 0,⟨T',[⟨false,0,1,wsD r',false,t⟩]⟩)/\
   Xf T' 0=some (.one (.p la))/\Xf T' 5=some (.one (.own 0 0 0 (a.length+1)))/\Xf T' 6=some (.one (.p (.int .u64 (.ofNat cy'))))/\r'.length=a.length+1/\Dig r'/\cy'<2/\r'[a.length]? =some 0/\val r'+cy'*4294967296^a.length=val a+val b
 |_,_,0,_,_,_,h,_,_,_,_,_=>by omega
 |0,i,k+1,r,cy,hi,_,h1,h2,h3,h4,h5=>by
  obtain rfl:i=a.length:=by omega
  rw[Yc,Ze hab]at h5
  have :∃T',Xa E K 0 [0,1,5,6,21,22] x184_1 (k+1) ⟨[(0,.one (.p la)),(1,.one (.p lb)),(5,.one (.own 0 0 0 (a.length+1))),(6,.one (.p (.int .u64 (.ofNat cy)))),(21,.one (.p (.int .i64 (.ofNat a.length)))),(22,.one (.p (.int .i64 (.ofNat a.length))))],[⟨false,0,1,wsD r,false,t⟩]⟩=some (.exit 0,⟨T',[⟨false,0,1,wsD r,false,t⟩]⟩)/\
    Xf T' 0=some (.one (.p la))/\Xf T' 5=some (.one (.own 0 0 0 (a.length+1)))/\Xf T' 6=some (.one (.p (.int .u64 (.ofNat cy)))):=by
   apply ex1
   ·rw[Xa]
    simp only[EVS,EVN,reduceIte,Nat.reduceEqDiff,x184_1,ZA]
    rfl
   ·simp only[EVS,reduceIte,Nat.reduceEqDiff,and_self]
  obtain⟨T',g1,g2,g3,g4⟩:=this
  exact⟨T',r,cy,g1,g2,g3,g4,h1,h2,h3,h4 _ (Zg _) (Zg _),h5⟩
 |d+1,i,k+1,r,cy,hi,hk,h1,h2,h3,h4,h5=>by
  obtain⟨w,hw⟩:∃w,a[i]? =some w:=⟨_,Zf (by omega)⟩
  have hlt:i<a.length:=by omega
  have hw2:=da.get hw
  have hr:=h4 i (Zg _) (by omega)
  have f1:w%18446744073709551616=w:=Zd (by omega)
  have f2:(w+cy)%18446744073709551616=w+cy:=Zd (by omega)
  have f3:Xd .i64 (.ofNat (i+1))=.ofNat (i+1):=wrap_i64 (by omega)
  have f4:i<a.length+1:=by omega
  by_cases hib:i<b.length
  ·obtain⟨v,hv⟩:∃v,b[i]? =some v:=⟨_,Zf hib⟩
   have hv2:=db.get hv
   have f5:v%18446744073709551616=v:=Zd (by omega)
   have f6:(w+cy+v)%18446744073709551616=w+cy+v:=Zd (by omega)
   obtain⟨T',r',cy',g1,g2⟩:=sum_loop sa sb da db hab hl t d (i+1) k (r.set i ((w+cy+v)%4294967296)) ((w+cy+v) / 4294967296) (by omega) (by omega) (by simpa using h1) (h2.set i (by omega)) (by omega)
    (fun j hj1 hj2=>by rw[Zz (by omega)];exact h4 j (by omega) hj2) (by
     have e1:=V4 (w:=(w+cy+v)%4294967296) hr
     rw[WC hw,WC hv]
     have e2:(w+cy+v)%4294967296+4294967296*((w+cy+v) / 4294967296)=w+cy+v:=Nat.mod_add_div _ _
     rw[ZD]
     generalize (w+cy+v)%4294967296=x at *
     generalize (w+cy+v) / 4294967296=y at *
     generalize 4294967296^i=p at *
     grind)
   refine⟨T',r',cy',?_,g2⟩
   rw[Xa]
   simp only[EVS,EVN,reduceIte,Nat.reduceEqDiff,Nat.reduceLeDiff,x184_1,hlt,sa.idx hw,sb.len,hib,sb.idx hv,f1,f2,f3,f4,f5,f6,XB hr,X5]
   exact g1
  ·obtain⟨T',r',cy',g1,g2⟩:=sum_loop sa sb da db hab hl t d (i+1) k (r.set i ((w+cy)%4294967296)) ((w+cy) / 4294967296) (by omega) (by omega) (by simpa using h1) (h2.set i (by omega)) (by omega)
    (fun j hj1 hj2=>by rw[Zz (by omega)];exact h4 j (by omega) hj2) (by
     have e1:=V4 (w:=(w+cy)%4294967296) hr
     rw[WC hw,Ze (show b.length<=i+1 by omega)]
     rw[Ze (show b.length<=i by omega)]at h5
     have e2:(w+cy)%4294967296+4294967296*((w+cy) / 4294967296)=w+cy:=Nat.mod_add_div _ _
     rw[ZD]
     generalize (w+cy)%4294967296=x at *
     generalize (w+cy) / 4294967296=y at *
     generalize 4294967296^i=p at *
     grind)
   refine⟨T',r',cy',?_,g2⟩
   rw[Xa]
   simp only[EVS,EVN,reduceIte,Nat.reduceEqDiff,Nat.reduceLeDiff,x184_1,hlt,sa.idx hw,sb.len,hib,f1,f2,f3,f4,XB hr,X5]
   exact g1
theorem VY (ws:List Nat){n:Nat}(h:ws.length<=n):(wsD ws).take n=wsD ws:=Ze (by rw[Ws];exact h)
theorem sum_fin {E:Oracle}{K:Nat}{la lb:PL}{a b:List Nat}(sa:SlW la a)(sb:SlW lb b)(da:Dig a)(db:Dig b)(hab:b.length<=a.length)(hl:a.length<1000000000000)(t:Nat)(hK:a.length<K):
  ∃T' cy' r',Xa E K 0 [0,1,5,6,21,22] x184_1 K ⟨[(0,.one (.p la)),(1,.one (.p lb)),(5,.one (.own 0 0 0 (a.length+1))),(6,.one (.p (.int .u64 (.ofNat 0)))),(21,.one (.p (.int .i64 (.ofNat a.length)))),(22,.one (.p (.int .i64 (.ofNat 0))))],[⟨false,0,1,wsD (List.replicate (a.length+1) 0),false,t⟩]⟩=some (.exit 0,⟨T',[⟨false,0,1,wsD r',false,t⟩]⟩)/\
   Xf T' 0=some (.one (.p la))/\Xf T' 5=some (.one (.own 0 0 0 (a.length+1)))/\Xf T' 6=some (.one (.p (.int .u64 (.ofNat cy'))))/\r'[a.length]? =some 0/\r'.set a.length (cy'%4294967296)=dg (a.length+1) (val a+val b):=by
 obtain⟨T',r',cy',g1,g2,g3,g4,g5,g6,g7,g8,g9⟩:=sum_loop (E:=E) (K:=K) sa sb da db hab hl t a.length 0 K (List.replicate (a.length+1) 0) 0 (by omega) hK (by simp) (Dig.replicate _) (by decide)
  (fun j _ hj=>by rw[YF,if_pos (by omega)]) (by rw[W5];simp[val])
 refine⟨T',cy',r',g1,g2,g3,g4,g8,V8 (g6.set _ (by omega)) (by simpa using g5) ?_⟩
 have:=V4 (w:=cy'%4294967296) g8
 rw[Zd (show cy'<4294967296 by omega)]at this⊢
 omega
theorem sum_ret {B:Base}(hB:Std B){la lb:PL}{a b:List Nat}(sa:SlW la a)(sb:SlW lb b)(da:Dig a)(db:Dig b)(ha:a.length<1000000000000)(hb:b.length<1000000000000):
  Ret B 184 [.one la,.one lb] (.one (.lst (wsP (Xc (val a+val b))))):=by
 have hv:∀{a b:List Nat},Dig a->Dig b->b.length<=a.length->val a+val b<4294967296^(a.length+1):=by
  intro a b da db hab
  have h1:=Wf da
  have h2:=ZQ (Wf db) (WA hab)
  rw[ZD];omega
 by_cases hab:a.length<b.length
 ·have h1:=U2 hB (ws:=dg (b.length+1) (val b+val a)) (by rw[XH];omega)
  rw[Ul (hv db da (by omega)),YI (val b)]at h1
  refine Ret.of (hB.tab _ _ rfl) (((Evt.ge (b.length+1)).and (h1.evt.and hB.evt)).mono fun E K ⟨hK,e1,hm⟩=> ?_)
  obtain⟨T',cy',r',g1,g2,g3,g4,g5,g6⟩:=sum_fin (E:=E) (K:=K) sb sa db da (by omega) hb 161 (by omega)
  rw[YI (val b)]at g6
  have f1:Xd .i64 (.ofNat (b.length+1))=.ofNat (b.length+1):=wrap_i64 (by omega)
  have f2:4*(b.length+1)<=lim:=by unfold lim;omega
  have f3:b.length+1<=9223372036854775807:=by omega
  have f4:b.length<b.length+1:=by omega
  simp only[EVS,EVN,reduceIte,Nat.reduceEqDiff,Nat.reduceLeDiff,x184,sa.len,sb.len,hab,f1,f2,f3,f4,Zg,VU,g1,g2,g3,g4,XB g5,X5,g6,VY _ (YG (XH (b.length+1) (val a+val b))),Ws,XH,Vb,Vl,hm,MDS,e1]
 ·have h1:=U2 hB (ws:=dg (a.length+1) (val a+val b)) (by rw[XH];omega)
  rw[Ul (hv da db (by omega))]at h1
  refine Ret.of (hB.tab _ _ rfl) (((Evt.ge (a.length+1)).and (h1.evt.and hB.evt)).mono fun E K ⟨hK,e1,hm⟩=> ?_)
  obtain⟨T',cy',r',g1,g2,g3,g4,g5,g6⟩:=sum_fin (E:=E) (K:=K) sa sb da db (by omega) ha 161 (by omega)
  have f1:Xd .i64 (.ofNat (a.length+1))=.ofNat (a.length+1):=wrap_i64 (by omega)
  have f2:4*(a.length+1)<=lim:=by unfold lim;omega
  have f3:a.length+1<=9223372036854775807:=by omega
  have f4:a.length<a.length+1:=by omega
  simp only[EVS,EVN,reduceIte,Nat.reduceEqDiff,Nat.reduceLeDiff,x184,sa.len,sb.len,hab,f1,f2,f3,f4,Zg,VU,g1,g2,g3,g4,XB g5,X5,g6,VY _ (YG (XH (a.length+1) (val a+val b))),Ws,XH,Vb,Vl,hm,MDS,e1]
theorem compare_loop {E:Oracle}{K:Nat}{la lb:PL}{a b:List Nat}(sa:SlW la a)(sb:SlW lb b)(da:Dig a)(db:Dig b)(hab:a.length=b.length)(hl:a.length<1000000000000):∀(n k:Nat) (H:List Blk),n<k->n<=a.length->
  ∃ex T',Xa E K 0 [0,1,5] x158_1 k ⟨[(0,.one (.p la)),(1,.one (.p lb)),(5,.one (.p (.int .i64 (pI n))))],H⟩=some (ex,⟨T',H⟩)/\
   ((val (a.take n)=val (b.take n)/\ex=.exit 0)\/(val (a.take n)<val (b.take n)/\ex=.ret/\Xf T' 4=some (.one (.p (.int .i64 (.negSucc 0)))))\/(val (b.take n)<val (a.take n)/\ex=.ret/\Xf T' 4=some (.one (.p (.int .i64 (.ofNat 1))))))
 |_,0,_,h,_=>by omega
 |0,k+1,H,_,_=>by
  refine⟨.exit 0,?_⟩
  apply ex1
  ·rw[Xa]
   simp only[EVS,EVN,reduceIte,Nat.reduceEqDiff,x158_1,pI]
   rfl
  ·exact .inl ⟨rfl,rfl⟩
 |n+1,k+1,H,hk,hn=>by
  obtain⟨w,hw⟩:∃w,a[n]? =some w:=⟨_,Zf (by omega)⟩
  obtain⟨v,hv⟩:∃v,b[n]? =some v:=⟨_,Zf (by omega)⟩
  have h1:=WV (n:=n) (by omega)
  have ha:val (a.take n)<4294967296^n:=by
   have:=Wf (ws:=a.take n) (fun x hx=>da x (YE hx))
   rwa[ZK,Yg (by omega)]at this
  have hb:val (b.take n)<4294967296^n:=by
   have:=Wf (ws:=b.take n) (fun x hx=>db x (YE hx))
   rwa[ZK,Yg (by omega)]at this
  rw[WC hw,WC hv]
  by_cases e:w=v
  ·subst e
   obtain⟨ex,T',g1,g2⟩:=compare_loop sa sb da db hab hl n k H (by omega) (by omega)
   refine⟨ex,T',?_,g2.imp (fun h=>⟨by omega,h.2⟩) fun h=>h.imp (fun h=>⟨by omega,h.2⟩) fun h=>⟨by omega,h.2⟩⟩
   rw[Xa]
   simp only[EVS,EVN,reduceIte,Nat.reduceEqDiff,x158_1,pI,Zr,sa.idx hw,sb.idx hv,h1]
   exact g1
  ·by_cases lt:w<v
   ·have:=Zn (4294967296^n) (show w+1<=v from lt)
    rw[ZJ,Z9]at this
    refine⟨.ret,?_⟩
    apply ex1
    ·rw[Xa]
     simp only[EVS,EVN,reduceIte,Nat.reduceEqDiff,x158_1,pI,Zr,sa.idx hw,sb.idx hv,e,lt]
     rfl
    ·exact .inr (.inl ⟨by omega,rfl,by simp only[EVS,reduceIte,Nat.reduceEqDiff]⟩)
   ·have:=Zn (4294967296^n) (show v+1<=w by omega)
    rw[ZJ,Z9]at this
    refine⟨.ret,?_⟩
    apply ex1
    ·rw[Xa]
     simp only[EVS,EVN,reduceIte,Nat.reduceEqDiff,x158_1,pI,Zr,sa.idx hw,sb.idx hv,e,lt]
     rfl
    ·exact .inr (.inr ⟨by omega,rfl,by simp only[EVS,reduceIte]⟩)
def cmpI (m n:Nat):Int:=if m<n then .negSucc 0 else if n<m then .ofNat 1 else .ofNat 0
theorem compare_ret {B:Base}(hB:Std B){la lb:PL}{a b:List Nat}(sa:SlW la a)(sb:SlW lb b)(da:Dig a)(db:Dig b)(ca:Canon a)(cb:Canon b)(ha:a.length<1000000000000)(hb:b.length<1000000000000):
  Ret B 158 [.one la,.one lb] (.one (.int .i64 (cmpI (val a) (val b)))):=by
 refine Ret.of (hB.tab _ _ rfl) ((Evt.ge (a.length+1)).mono fun E K hK=> ?_)
 by_cases hab:a.length=b.length
 ·obtain⟨ex,T',g1,g2⟩:=compare_loop (E:=E) (K:=K) sa sb da db hab ha a.length K [] (by omega) (Zg _)
  rw[Yc,hab,Yc]at g2
  rw[hab]at g1
  have h1:=WV (n:=b.length) (by omega)
  unfold cmpI
  rcases g2 with⟨e,rfl⟩|⟨e,rfl,g2⟩|⟨e,rfl,g2⟩
  ·simp only[EVS,EVN,reduceIte,Nat.reduceEqDiff,Nat.reduceLeDiff,x158,sa.len,sb.len,hab,h1,g1,e,ZA]
  ·simp only[EVS,EVN,reduceIte,Nat.reduceEqDiff,Nat.reduceLeDiff,x158,sa.len,sb.len,hab,h1,g1,e,g2]
  ·simp only[EVS,EVN,reduceIte,Nat.reduceEqDiff,Nat.reduceLeDiff,x158,sa.len,sb.len,hab,h1,g1,e,g2,Nat.lt_asymm e]
 ·have lt:∀{a b:List Nat},Dig a->Canon b->a.length<b.length->val a<val b:=by
   intro a b da cb h
   have h1:=ZQ (Wf da) (WA (Nat.le_of_lt_succ (by omega:a.length<b.length-1+1)))
   exact ZQ h1 (SM cb (by omega))
  unfold cmpI
  by_cases h:a.length<b.length
  ·have e:=lt da cb h
   simp only[EVS,EVN,reduceIte,Nat.reduceEqDiff,Nat.reduceLeDiff,x158,sa.len,sb.len,hab,h,e]
  ·have e:=lt db ca (by omega)
   simp only[EVS,EVN,reduceIte,Nat.reduceEqDiff,Nat.reduceLeDiff,x158,sa.len,sb.len,hab,h,e,Nat.lt_asymm e]
theorem diff_loop {E:Oracle}{K:Nat}{la lb:PL}{a b:List Nat}(sa:SlW la a)(sb:SlW lb b)(da:Dig a)(db:Dig b)(hab:b.length<=a.length)(hl:a.length<1000000000000)(t:Nat):
  ∀(d i k:Nat) (r:List Nat) (bw:Nat),i+d=a.length->d<k->r.length=a.length->Dig r->bw<2->(∀j,i<=j->j<a.length->r[j]? =some 0)->val r+val (b.take i)=val (a.take i)+bw*4294967296^i->
  ∃T' r' bw',Xa E K 0 [0,1,5,6,13,14] x185_1 k ⟨[(0,.one (.p la)),(1,.one (.p lb)),(5,.one (.own 0 0 0 a.length)),(6,.one (.p (.int .u64 (.ofNat bw)))),(13,.one (.p (.int .i64 (.ofNat a.length)))),(14,.one (.p (.int .i64 (.ofNat i))))],[⟨false,0,1,wsD r,false,t⟩]⟩=some (.exit 0,⟨T',[⟨false,0,1,wsD r',false,t⟩]⟩)/\
   Xf T' 5=some (.one (.own 0 0 0 a.length))/\r'.length=a.length/\Dig r'/\val r'+val b=val a+bw'*4294967296^a.length
 |_,_,0,_,_,_,h,_,_,_,_,_=>by omega
 |0,i,k+1,r,bw,hi,_,h1,h2,h3,h4,h5=>by
  obtain rfl:i=a.length:=by omega
  rw[Yc,Ze hab]at h5
  have :∃T',Xa E K 0 [0,1,5,6,13,14] x185_1 (k+1) ⟨[(0,.one (.p la)),(1,.one (.p lb)),(5,.one (.own 0 0 0 a.length)),(6,.one (.p (.int .u64 (.ofNat bw)))),(13,.one (.p (.int .i64 (.ofNat a.length)))),(14,.one (.p (.int .i64 (.ofNat a.length))))],[⟨false,0,1,wsD r,false,t⟩]⟩=some (.exit 0,⟨T',[⟨false,0,1,wsD r,false,t⟩]⟩)/\
    Xf T' 5=some (.one (.own 0 0 0 a.length)):=by
   apply ex1
   ·rw[Xa]
    simp only[EVS,EVN,reduceIte,Nat.reduceEqDiff,x185_1,ZA]
    rfl
   ·simp only[EVS,reduceIte,Nat.reduceEqDiff]
  obtain⟨T',g1,g2⟩:=this
  exact⟨T',r,bw,g1,g2,h1,h2,h5⟩
 |d+1,i,k+1,r,bw,hi,hk,h1,h2,h3,h4,h5=>by
  obtain⟨w,hw⟩:∃w,a[i]? =some w:=⟨_,Zf (by omega)⟩
  have hlt:i<a.length:=by omega
  have hw2:=da.get hw
  have hr:=h4 i (Zg _) (by omega)
  have f1:w%18446744073709551616=w:=Zd (by omega)
  have f3:Xd .i64 (.ofNat (i+1))=.ofNat (i+1):=wrap_i64 (by omega)
  obtain⟨d1,e1,p1⟩:∃d1,Xd .u64 (.ofNat w-.ofNat bw)=.ofNat d1/\d1=(w+(18446744073709551616-bw))%18446744073709551616:=⟨_,sub_u64 (by omega),rfl⟩
  by_cases hib:i<b.length
  ·obtain⟨v,hv⟩:∃v,b[i]? =some v:=⟨_,Zf hib⟩
   have hv2:=db.get hv
   have f5:v%18446744073709551616=v:=Zd (by omega)
   obtain⟨d2,e2,p2⟩:∃d2,Xd .u64 (.ofNat d1-.ofNat v)=.ofNat d2/\d2=(d1+(18446744073709551616-v))%18446744073709551616:=⟨_,sub_u64 (by omega),rfl⟩
   have rel:d2%4294967296+bw+v=w+4294967296*(d2 / 9223372036854775808):=by omega
   obtain⟨T',r',bw',g1,g2⟩:=diff_loop sa sb da db hab hl t d (i+1) k (r.set i (d2%4294967296)) (d2 / 9223372036854775808) (by omega) (by omega) (by simpa using h1) (h2.set i (by omega)) (by omega)
    (fun j hj1 hj2=>by rw[Zz (by omega)];exact h4 j (by omega) hj2) (by
     have e1:=V4 (w:=d2%4294967296) hr
     rw[WC hw,WC hv,ZD]
     generalize d2%4294967296=x at *
     generalize d2 / 9223372036854775808=y at *
     generalize 4294967296^i=p at *
     clear p1 p2
     grind)
   refine⟨T',r',bw',?_,g2⟩
   rw[Xa]
   simp only[EVS,EVN,reduceIte,Nat.reduceEqDiff,Nat.reduceLeDiff,x185_1,hlt,sa.idx hw,sb.len,hib,sb.idx hv,f1,f3,f5,e1,e2,XB hr,X5]
   exact g1
  ·have rel:d1%4294967296+bw=w+4294967296*(d1 / 9223372036854775808):=by omega
   obtain⟨T',r',bw',g1,g2⟩:=diff_loop sa sb da db hab hl t d (i+1) k (r.set i (d1%4294967296)) (d1 / 9223372036854775808) (by omega) (by omega) (by simpa using h1) (h2.set i (by omega)) (by omega)
    (fun j hj1 hj2=>by rw[Zz (by omega)];exact h4 j (by omega) hj2) (by
     have e1:=V4 (w:=d1%4294967296) hr
     rw[WC hw,Ze (show b.length<=i+1 by omega),ZD]
     rw[Ze (show b.length<=i by omega)]at h5
     generalize d1%4294967296=x at *
     generalize d1 / 9223372036854775808=y at *
     generalize 4294967296^i=p at *
     clear p1
     grind)
   refine⟨T',r',bw',?_,g2⟩
   rw[Xa]
   simp only[EVS,EVN,reduceIte,Nat.reduceEqDiff,Nat.reduceLeDiff,x185_1,hlt,sa.idx hw,sb.len,hib,f1,f3,e1,XB hr,X5]
   exact g1
theorem diff_ret {B:Base}(hB:Std B){la lb:PL}{a b:List Nat}(sa:SlW la a)(sb:SlW lb b)(da:Dig a)(db:Dig b)(hab:b.length<=a.length)(hl:a.length<1000000000000)(hv:val b<=val a):
  Ret B 185 [.one la,.one lb] (.one (.lst (wsP (Xc (val a-val b))))):=by
 have hva:=Wf da
 have h1:=U2 hB (ws:=dg a.length (val a-val b)) (by rw[XH];omega)
 rw[Ul (by omega)]at h1
 refine Ret.of (hB.tab _ _ rfl) (((Evt.ge (a.length+1)).and (h1.evt.and hB.evt)).mono fun E K ⟨hK,e1,hm⟩=> ?_)
 obtain⟨T',r',bw',g1,g2,g3,g4,g5⟩:=diff_loop (E:=E) (K:=K) sa sb da db hab hl 161 a.length 0 K (List.replicate a.length 0) 0 (by omega) (by omega) (by simp) (Dig.replicate _) (by decide)
  (fun j _ hj=>by rw[YF,if_pos (by omega)]) (by rw[W5];simp[val])
 have hr':r'=dg a.length (val a-val b):=by
  have:=Wf g4
  rw[g3]at this
  have hb0:bw'=0:=by
   rcases Z0 bw' with h|h
   ·exact h
   ·have:=Zn (4294967296^a.length) h
    omega
  subst hb0
  exact V8 g4 g3 (by omega)
 subst hr'
 have f2:4*a.length<=lim:=by unfold lim;omega
 have f3:a.length<=9223372036854775807:=by omega
 simp only[EVS,EVN,reduceIte,Nat.reduceEqDiff,Nat.reduceLeDiff,x185,sa.len,f2,f3,Zg,VU,g1,g2,VY _ (YG (XH a.length (val a-val b))),Ws,XH,Vb,Vl,hm,MDS,e1]
theorem V1 {x y z u:Nat}(hx:x<4294967296)(hy:y<4294967296)(hz:z<4294967296)(hu:u<4294967296):x*y+z+u<18446744073709551616:=by
 have:=Yz (Nat.le_sub_one_of_lt hx) (Nat.le_sub_one_of_lt hy)
 omega
theorem prod_in {E:Oracle}{K:Nat}{la lb:PL}{b:List Nat}(sb:SlW lb b)(db:Dig b){na:Nat}(hl:na+b.length<1000000000000)(t:Nat){i x:Nat}(hia:i<na)(hx:x<4294967296)(V:Nat):
  ∀(d j k:Nat) (r:List Nat) (cy:Nat),j+d=b.length->d<k->r.length=na+b.length->Dig r->cy<4294967296->(∀p,i+b.length<=p->p<na+b.length->r[p]? =some 0)->val r+cy*4294967296^(i+j)+x*4294967296^(i+j)*val (b.drop j)=V->
  ∃T' r' cy',Xa E K 0 [0,1,5,6,7,8,18,19,28,29] x191_1 k ⟨[(0,.one (.p la)),(1,.one (.p lb)),(5,.one (.own 0 0 0 (na+b.length))),(6,.one (.p (.int .i64 (.ofNat i)))),(7,.one (.p (.int .u64 (.ofNat cy)))),(8,.one (.p (.int .u64 (.ofNat x)))),(18,.one (.p (.int .i64 (.ofNat na)))),(19,.one (.p (.int .i64 (.ofNat i)))),(28,.one (.p (.int .i64 (.ofNat b.length)))),(29,.one (.p (.int .i64 (.ofNat j))))],[⟨false,0,1,wsD r,false,t⟩]⟩=some (.exit 2,⟨T',[⟨false,0,1,wsD r',false,t⟩]⟩)/\
   (Xf T' 0=some (.one (.p la))/\Xf T' 1=some (.one (.p lb))/\Xf T' 5=some (.one (.own 0 0 0 (na+b.length)))/\Xf T' 6=some (.one (.p (.int .i64 (.ofNat i))))/\Xf T' 7=some (.one (.p (.int .u64 (.ofNat cy'))))/\Xf T' 18=some (.one (.p (.int .i64 (.ofNat na))))/\Xf T' 19=some (.one (.p (.int .i64 (.ofNat i)))))/\
   r'.length=na+b.length/\Dig r'/\cy'<4294967296/\(∀p,i+b.length<=p->p<na+b.length->r'[p]? =some 0)/\val r'+cy'*4294967296^(i+b.length)=V
 |_,_,0,_,_,_,h,_,_,_,_,_=>by omega
 |0,j,k+1,r,cy,hi,_,h1,h2,h3,h4,h5=>by
  obtain rfl:j=b.length:=by omega
  have :∃T',Xa E K 0 [0,1,5,6,7,8,18,19,28,29] x191_1 (k+1) ⟨[(0,.one (.p la)),(1,.one (.p lb)),(5,.one (.own 0 0 0 (na+b.length))),(6,.one (.p (.int .i64 (.ofNat i)))),(7,.one (.p (.int .u64 (.ofNat cy)))),(8,.one (.p (.int .u64 (.ofNat x)))),(18,.one (.p (.int .i64 (.ofNat na)))),(19,.one (.p (.int .i64 (.ofNat i)))),(28,.one (.p (.int .i64 (.ofNat b.length)))),(29,.one (.p (.int .i64 (.ofNat b.length))))],[⟨false,0,1,wsD r,false,t⟩]⟩=some (.exit 2,⟨T',[⟨false,0,1,wsD r,false,t⟩]⟩)/\
    (Xf T' 0=some (.one (.p la))/\Xf T' 1=some (.one (.p lb))/\Xf T' 5=some (.one (.own 0 0 0 (na+b.length)))/\Xf T' 6=some (.one (.p (.int .i64 (.ofNat i))))/\Xf T' 7=some (.one (.p (.int .u64 (.ofNat cy))))/\Xf T' 18=some (.one (.p (.int .i64 (.ofNat na))))/\Xf T' 19=some (.one (.p (.int .i64 (.ofNat i))))):=by
   apply ex1
   ·rw[Xa]
    simp only[EVS,EVN,reduceIte,Nat.reduceEqDiff,x191_1,ZA]
    rfl
   ·simp only[EVS,reduceIte,Nat.reduceEqDiff,and_self]
  obtain⟨T',g1,g2⟩:=this
  refine⟨T',r,cy,g1,g2,h1,h2,h3,h4,?_⟩
  rw[List.drop_length]at h5
  simpa[val]using h5
 |d+1,j,k+1,r,cy,hi,hk,h1,h2,h3,h4,h5=>by
  have hlt:j<b.length:=by omega
  obtain⟨v,hv⟩:∃v,b[j]? =some v:=⟨_,Zf hlt⟩
  obtain⟨u,hu⟩:∃u,r[i+j]? =some u:=⟨_,Zf (by omega)⟩
  have hv2:=db.get hv
  have hu2:=h2.get hu
  have hb:=V1 hx hv2 hu2 h3
  have f1:v%18446744073709551616=v:=Zd (by omega)
  have f2:u%18446744073709551616=u:=Zd (by omega)
  have f3:(x*v)%18446744073709551616=x*v:=Zd (by omega)
  have f4:(x*v+u)%18446744073709551616=x*v+u:=Zd (by omega)
  have f5:(x*v+u+cy)%18446744073709551616=x*v+u+cy:=Zd hb
  have f6:Xd .i64 (.ofNat (i+j))=.ofNat (i+j):=wrap_i64 (by omega)
  have f7:Xd .i64 (.ofNat (j+1))=.ofNat (j+1):=wrap_i64 (by omega)
  have f8:i+j<na+b.length:=by omega
  obtain⟨T',r',cy',g1,g2⟩:=prod_in (la:=la) sb db hl t hia hx V d (j+1) k (r.set (i+j) ((x*v+u+cy)%4294967296)) ((x*v+u+cy) / 4294967296) (by omega) (by omega) (by simpa using h1) (h2.set _ (by omega)) (by omega)
   (fun p hp1 hp2=>by rw[Zz (by omega)];exact h4 p hp1 hp2) (by
    have e1:=V4 (w:=(x*v+u+cy)%4294967296) hu
    rw[val_drop hv]at h5
    have e2:(x*v+u+cy)%4294967296+4294967296*((x*v+u+cy) / 4294967296)=x*v+u+cy:=Nat.mod_add_div _ _
    rw[show i+(j+1)=(i+j)+1 by omega,ZD]
    generalize (x*v+u+cy)%4294967296=y at *
    generalize (x*v+u+cy) / 4294967296=z at *
    generalize 4294967296^(i+j)=p at *
    clear hb f3 f4 f5 f1 f2
    grind)
  refine⟨T',r',cy',?_,g2⟩
  rw[Xa]
  simp only[EVS,EVN,reduceIte,Nat.reduceEqDiff,Nat.reduceLeDiff,x191_1,hlt,sb.idx hv,f1,f2,f3,f4,f5,f6,f7,f8,XB hu,X5]
  exact g1
theorem prod_out {E:Oracle}{K:Nat}{la lb:PL}{a b:List Nat}(sa:SlW la a)(sb:SlW lb b)(da:Dig a)(db:Dig b)(hl:a.length+b.length<1000000000000)(hK:b.length<K)(t:Nat):
  ∀(d i k:Nat) (r:List Nat),i+d=a.length->d<k->r.length=a.length+b.length->Dig r->(∀p,i+b.length<=p->p<a.length+b.length->r[p]? =some 0)->val r=val (a.take i)*val b->
  ∃T' r',Xa E K 0 [0,1,5,18,19] x191_2 k ⟨[(0,.one (.p la)),(1,.one (.p lb)),(5,.one (.own 0 0 0 (a.length+b.length))),(18,.one (.p (.int .i64 (.ofNat a.length)))),(19,.one (.p (.int .i64 (.ofNat i))))],[⟨false,0,1,wsD r,false,t⟩]⟩=some (.exit 0,⟨T',[⟨false,0,1,wsD r',false,t⟩]⟩)/\
   Xf T' 5=some (.one (.own 0 0 0 (a.length+b.length)))/\r'.length=a.length+b.length/\Dig r'/\val r'=val a*val b
 |_,_,0,_,_,h,_,_,_,_=>by omega
 |0,i,k+1,r,hi,_,h1,h2,h3,h4=>by
  obtain rfl:i=a.length:=by omega
  rw[Yc]at h4
  have :∃T',Xa E K 0 [0,1,5,18,19] x191_2 (k+1) ⟨[(0,.one (.p la)),(1,.one (.p lb)),(5,.one (.own 0 0 0 (a.length+b.length))),(18,.one (.p (.int .i64 (.ofNat a.length)))),(19,.one (.p (.int .i64 (.ofNat a.length))))],[⟨false,0,1,wsD r,false,t⟩]⟩=some (.exit 0,⟨T',[⟨false,0,1,wsD r,false,t⟩]⟩)/\Xf T' 5=some (.one (.own 0 0 0 (a.length+b.length))):=by
   apply ex1
   ·rw[Xa]
    simp only[EVS,EVN,reduceIte,Nat.reduceEqDiff,x191_2,ZA]
    rfl
   ·simp only[EVS,reduceIte,Nat.reduceEqDiff]
  obtain⟨T',g1,g2⟩:=this
  exact⟨T',r,g1,g2,h1,h2,h4⟩
 |d+1,i,k+1,r,hi,hk,h1,h2,h3,h4=>by
  have hlt:i<a.length:=by omega
  obtain⟨x,hx⟩:∃x,a[i]? =some x:=⟨_,Zf hlt⟩
  have hx2:=da.get hx
  obtain⟨T1,r1,cy,q1,⟨q2,q3,q4,q5,q6,q7,q8⟩,q9,q10,q11,q12,q13⟩:=prod_in (E:=E) (K:=K) (la:=la) sb db hl t hlt hx2 (val r+x*4294967296^i*val b) b.length 0 K r 0 (by omega) hK h1 h2 (by decide) h3 (by simp)
  have hz:=q12 (i+b.length) (Zg _) (by omega)
  obtain⟨T',r',g1,g2⟩:=prod_out sa sb da db hl hK t d (i+1) k (r1.set (i+b.length) (cy%4294967296)) (by omega) (by omega) (by simpa using q9) (q10.set _ (by omega))
   (fun p hp1 hp2=>by rw[Zz (by omega)];exact q12 p (by omega) hp2) (by
    have e1:=V4 (w:=cy%4294967296) hz
    rw[Zd q11]at e1⊢
    rw[WC hx,ZJ,<-h4]
    have :x*4294967296^i*val b=x*4294967296^i*val b:=rfl
    omega)
  refine⟨T',r',?_,g2⟩
  have f1:x%18446744073709551616=x:=Zd (by omega)
  have f2:Xd .i64 (.ofNat (i+1))=.ofNat (i+1):=wrap_i64 (by omega)
  have f3:Xd .i64 (.ofNat (i+b.length))=.ofNat (i+b.length):=wrap_i64 (by omega)
  have f4:i+b.length<a.length+b.length:=by omega
  rw[Xa]
  simp only[EVS,EVN,reduceIte,Nat.reduceEqDiff,Nat.reduceLeDiff,x191_2,hlt,sa.idx hx,sb.len,f1,f2,f3,f4,q1,q2,q3,q4,q5,q6,q7,q8,XB hz,X5]
  exact g1
theorem prod_ret {B:Base}(hB:Std B){la lb:PL}{a b:List Nat}(sa:SlW la a)(sb:SlW lb b)(da:Dig a)(db:Dig b)(hl:a.length+b.length<1000000000000):
  Ret B 191 [.one la,.one lb] (.one (.lst (wsP (Xc (val a*val b))))):=by
 have hva:=Wf da
 have hvb:=Wf db
 have h1:=U2 hB (ws:=dg (a.length+b.length) (val a*val b)) (by rw[XH];omega)
 rw[Ul (by rw[Nat.pow_add];exact Nat.mul_lt_mul'' hva hvb)]at h1
 refine Ret.of (hB.tab _ _ rfl) (((Evt.ge (a.length+b.length+1)).and (h1.evt.and hB.evt)).mono fun E K ⟨hK,e1,hm⟩=> ?_)
 obtain⟨T',r',g1,g2,g3,g4,g5⟩:=prod_out (E:=E) (K:=K) sa sb da db hl (by omega) 161 a.length 0 K (List.replicate (a.length+b.length) 0) (by omega) (by omega) (by simp) (Dig.replicate _)
  (fun j _ hj=>by rw[YF,if_pos (by omega)]) (by rw[W5];simp[val])
 obtain rfl:=V8 g4 g3 g5
 have f1:Xd .i64 (.ofNat (a.length+b.length))=.ofNat (a.length+b.length):=wrap_i64 (by omega)
 have f2:4*(a.length+b.length)<=lim:=by unfold lim;omega
 have f3:a.length+b.length<=9223372036854775807:=by omega
 simp only[EVS,EVN,reduceIte,Nat.reduceEqDiff,Nat.reduceLeDiff,x191,sa.len,sb.len,f1,f2,f3,Zg,VU,g1,g2,VY _ (YG (XH (a.length+b.length) (val a*val b))),Ws,XH,Vb,Vl,hm,MDS,e1]
theorem Wz {B:Base}(hB:Std B){l:PL}{ws:List Nat}(neg:Bool)(s:SlW l ws)(d:Dig ws)(hl:ws.length<1000000000000):∃c,Ret B 183 [.one (.bool neg),.one l] (.agg c)/\IsI c (if neg then -(val ws:Int)else val ws):=by
 obtain⟨r,h1,h2⟩:=trim_ret hB s (by omega)
 rw[VG d rfl]at h2
 by_cases h0:val ws=0
 ·refine⟨[.bool false,.nilS],Ret.of (hB.tab _ _ rfl) ((h1.evt.and hB.evt).mono fun E K ⟨e1,hm⟩=> ?_),.nilS,?_,?_⟩
  ·rw[h0,Wm]at h2
   simp only[EVS,EVN,reduceIte,Nat.reduceEqDiff,Nat.reduceLeDiff,x183,hm,MDS,e1,h2.len]
  ·rw[h0];cases neg<;>rfl
  ·rw[h0];cases neg<;>simp only[Zs,if_false,if_true]<;>exact IsW.zero
 ·have hn:(Xc (val ws)).length≠0:=by rw[VV h0];simp
  refine⟨[.bool neg,r],Ret.of (hB.tab _ _ rfl) ((h1.evt.and hB.evt).mono fun E K ⟨e1,hm⟩=> ?_),r,?_,?_⟩
  ·simp only[EVS,EVN,reduceIte,Nat.reduceEqDiff,Nat.reduceLeDiff,x183,hm,MDS,e1,h2.len,hn]
  ·cases neg
   ·simp only[Zs,if_false];rw[decide_eq_false (by omega)]
   ·simp only[if_true];rw[decide_eq_true (by omega)]
  ·have :(if neg then -(val ws:Int)else val ws).natAbs=val ws:=by cases neg<;>simp
   rw[this];exact h2
theorem clone_ret {B:Base}(hB:Std B){l:PL}{ws:List Nat}(s:SlW l ws)(hl:ws.length<1000000000000):∃r,Ret B 186 [.one l] (.one r)/\SlW r ws:=by
 have hc:∀h,XX h (.p l)=some (wsD ws,[]):=fun h=>by rw[Sl.chunks s,wsP_map]
 by_cases h0:ws=[]
 ·subst h0
  refine⟨.nilS,Ret.of (hB.tab _ _ rfl) (Evt.of fun K n=> ?_),.nil⟩
  have ha:∀e n ids,X8 e 1 4 n (wsD []) ids=some ⟨.one (.p .nilS),[],[],ids⟩:=fun _ _ _=>rfl
  simp only[EVS,EVN,reduceIte,Nat.reduceEqDiff,Nat.reduceLeDiff,x186,hc,ha]
  simp only[wsD,EVS]
  simp only[show∀e n ids,X8 e 1 4 n [] ids=some ⟨.one (.p .nilS),[],[],ids⟩from fun _ _ _=>rfl,EVS,reduceIte,Nat.reduceEqDiff]
 ·refine⟨.lst (wsP ws),Ret.of (hB.tab _ _ rfl) (Evt.of fun K n=> ?_),.lst⟩
  have ha:(wsD ws).all (fun c=>decide (c.length=1))=true:=by
   have:=all_wsD ws
   rw[ZP]at this⊢
   intro x hx;have:=this x hx;rwa[beq_dec]at this
  simp only[EVS,EVN,reduceIte,Nat.reduceEqDiff,Nat.reduceLeDiff,x186,hc,ha,appNil_ws h0 hl,VY ws (Zg _),Ws,Vb,Zg]
theorem words_ret {B:Base}(hB:Std B){m:Nat}(hm:m<18446744073709551616):Ret B 189 [.one (.int .u64 (.ofNat m))] (.one (.lst (wsP (Xc m)))):=by
 have h1:Ret B 187 [.one (.lst [[.int .u32 (.ofNat (m%4294967296))],[.int .u32 (.ofNat (m / 4294967296%4294967296))]])] (.one (.lst (wsP (Xc m)))):=by
  have:=U2 hB (ws:=[m%4294967296,m / 4294967296%4294967296]) (by simp)
  rw[VG (n:=m) (Dig.mk (by omega) (Dig.mk (by omega) Dig.nil)) (by simp only[val];omega)]at this
  exact this
 refine Ret.of (hB.tab _ _ rfl) ((h1.evt.and hB.evt).mono fun E K ⟨e1,hm⟩=> ?_)
 simp only[EVS,EVN,reduceIte,Nat.reduceEqDiff,Nat.reduceLeDiff,Nat.reduceLT,Nat.reduceAdd,x189,hm,MDS,e1]
theorem of_ret {B:Base}(hB:Std B){m:Nat}(hm:m<9223372036854775808):∃c,Ret B 155 [.one (.int .i64 (.ofNat m))] (.agg c)/\IsI c m:=by
 have h1:=words_ret hB (m:=m) (by omega)
 have hlen:(Xc m).length<1000000000000:=by
  rcases Yn (Xc m).length 3 with h|h
  ·omega
  ·have:=SM (Wh m) (by omega)
   rw[Xg]at this
   have:=ZC (WA (show 2<=(Xc m).length-1 by omega)) this
   simp at this;omega
 obtain⟨c,h2,h3⟩:=Wz hB false (l:=.lst (wsP (Xc m))) .lst (Xj m) hlen
 rw[Xg]at h3
 refine⟨c,Ret.of (hB.tab _ _ rfl) ((h1.evt.and (h2.evt.and hB.evt)).mono fun E K ⟨e1,e2,hm2⟩=> ?_),by simpa using h3⟩
 obtain⟨l,rfl,-⟩:=h3
 have f1:m%18446744073709551616=m:=Zd (by omega)
 simp only[EVS,EVN,reduceIte,Nat.reduceEqDiff,Nat.reduceLeDiff,Nat.reduceAdd,x155,f1,Nat.not_lt_zero,hm2,MDS,e1,e2]
theorem sign_ret {B:Base}(hB:Std B){c:List PL}{z:Int}(hc:IsI c z):Ret B 157 [.agg c] (.one (.int .i64 (sgn z))):=by
 obtain⟨m,rfl,hm⟩:=hc
 refine Ret.of (hB.tab _ _ rfl) (Evt.of fun K n=> ?_)
 unfold sgn
 by_cases h0:z=0
 ·subst h0
  have:=hm.len
  rw[show Int.natAbs 0=0 from rfl,Wm]at this
  simp only[EVS,EVN,reduceIte,Nat.reduceEqDiff,Nat.reduceLeDiff,Nat.reduceAdd,x157,this]
 ·have hn:(Xc z.natAbs).length≠0:=by rw[Ne,Wn];omega
  by_cases h1:z<0
  ·simp only[EVS,EVN,reduceIte,Nat.reduceEqDiff,Nat.reduceLeDiff,Nat.reduceAdd,x157,hm.len,hn,h0,h1]
  ·simp only[EVS,EVN,reduceIte,Nat.reduceEqDiff,Nat.reduceLeDiff,Nat.reduceAdd,x157,hm.len,hn,h0,h1]
theorem Tx {B:Base}(hB:Std B){c:List PL}{z:Int}(hc:IsI c z):Ret B 152 [.agg c] (.one (.bool (decide (z=1)))):=by
 obtain⟨m,rfl,hm⟩:=hc
 refine Ret.of (hB.tab _ _ rfl) (Evt.of fun K n=> ?_)
 by_cases h1:z<0
 ·have :z≠1:=by omega
  simp only[EVS,EVN,reduceIte,Nat.reduceEqDiff,Nat.reduceLeDiff,Nat.reduceAdd,x152,h1,this]
 ·by_cases h2:(Xc z.natAbs).length=1
  ·obtain⟨h3,h4⟩:=Tu.1 h2
   have hi:(Xc z.natAbs)[0]? =some z.natAbs:=by rw[words_small h3 h4];rfl
   have h5:(z.natAbs=1)=(z=1):=by simp only[eq_iff_iff];omega
   simp only[EVS,EVN,reduceIte,Nat.reduceEqDiff,Nat.reduceLeDiff,Nat.reduceAdd,x152,h1,hm.len,h2,hm.idx hi,h5]
  ·have :z≠1:=by
    rintro rfl
    exact h2 (by rw[Tu];decide)
   simp only[EVS,EVN,reduceIte,Nat.reduceEqDiff,Nat.reduceLeDiff,Nat.reduceAdd,x152,h1,hm.len,h2,this]
theorem leF_cmpI (m n:Nat):leF (.ofNat 0) (cmpI m n)=decide (n<=m):=by
 unfold cmpI
 by_cases h:m<n
 ·rw[if_pos h,decide_eq_false (by omega)];rfl
 ·rw[if_neg h,decide_eq_true (by omega)]
  split<;>rfl
theorem neg_ret {B:Base}(hB:Std B){c:List PL}{z:Int}(hc:IsI c z)(hz:Sm z):∃c',Ret B 159 [.agg c] (.agg c')/\IsI c' (-z):=by
 obtain⟨m,rfl,hm⟩:=hc
 unfold Sm at hz
 obtain⟨r,h1,h2⟩:=clone_ret hB hm (by omega)
 obtain⟨c',h3,h4⟩:=Wz hB (!decide (z<0)) h2 (Xj _) (by omega)
 rw[Xg]at h4
 refine⟨c',Ret.of (hB.tab _ _ rfl) ((h1.evt.and (h3.evt.and hB.evt)).mono fun E K ⟨e1,e2,hm2⟩=> ?_),?_⟩
 ·obtain⟨l,rfl,-⟩:=h4
  simp(decide:=true)only[EVS,EVN,reduceIte,Nat.reduceAdd,x159,hm2,MDS,e1,e2]
 ·have : -z=(if(!decide (z<0))=true then -(z.natAbs:Int)else z.natAbs):=by
   by_cases h:z<0
   ·simp[h];omega
   ·simp[h];omega
  rw[this];exact h4
theorem mul_ret {B:Base}(hB:Std B){c d:List PL}{x y:Int}(hc:IsI c x)(hd:IsI d y)(hx:Sm x)(hy:Sm y):∃e,Ret B 156 [.agg c,.agg d] (.agg e)/\IsI e (x*y):=by
 obtain⟨m,rfl,hm⟩:=hc
 obtain⟨n,rfl,hn⟩:=hd
 unfold Sm at hx hy
 have h1:=prod_ret hB hm hn (Xj _) (Xj _) (by omega)
 rw[Xg,Xg]at h1
 have hlen:(Xc (x.natAbs*y.natAbs)).length<1000000000000:=by
  have:=Vt x.natAbs y.natAbs
  omega
 obtain⟨e,h2,h3⟩:=Wz hB (decide (x<0)!=decide (y<0)) (l:=.lst (wsP (Xc (x.natAbs*y.natAbs)))) .lst (Xj _) hlen
 rw[Xg]at h3
 refine⟨e,Ret.of (hB.tab _ _ rfl) ((h1.evt.and (h2.evt.and hB.evt)).mono fun E K ⟨e1,e2,hm2⟩=> ?_),?_⟩
 ·obtain⟨l,rfl,-⟩:=h3
  have hq:((decide (x<0)==decide (y<0))!=true)=(decide (x<0)!=decide (y<0)):=by
   cases decide (x<0)<;>cases decide (y<0)<;>rfl
  simp(decide:=true)only[EVS,EVN,reduceIte,Nat.reduceAdd,x156,hm2,MDS,e1,e2,hq]
 ·have :x*y=(if(decide (x<0)!=decide (y<0))=true then -((x.natAbs*y.natAbs:Nat):Int)else((x.natAbs*y.natAbs:Nat):Int)):=by
   rw[Int.natCast_mul]
   by_cases h:x<0<;>by_cases k:y<0
   ·simp only[h,k,decide_true,bne_self_eq_false,Zs,if_false]
    rw[show(x.natAbs:Int)= -x by omega,show(y.natAbs:Int)= -y by omega];grind
   ·simp only[h,k,decide_true,decide_false,bne_iff_ne,ne_eq,Bool.true_eq_false,not_false_eq_true,if_true]
    rw[show(x.natAbs:Int)= -x by omega,show(y.natAbs:Int)=y by omega];grind
   ·simp only[h,k,decide_true,decide_false,bne_iff_ne,ne_eq,Zs,not_false_eq_true,if_true]
    rw[show(x.natAbs:Int)=x by omega,show(y.natAbs:Int)= -y by omega];grind
   ·simp only[h,k,decide_false,bne_self_eq_false,Zs,if_false]
    rw[show(x.natAbs:Int)=x by omega,show(y.natAbs:Int)=y by omega]
  rw[this];exact h3
theorem add_ret {B:Base}(hB:Std B){c d:List PL}{x y:Int}(hc:IsI c x)(hd:IsI d y)(hx:Sm x)(hy:Sm y):∃e,Ret B 151 [.agg c,.agg d] (.agg e)/\IsI e (x+y):=by
 obtain⟨m,rfl,hm⟩:=hc
 obtain⟨n,rfl,hn⟩:=hd
 unfold Sm at hx hy
 by_cases hs:decide (x<0)=decide (y<0)
 ·have h1:=sum_ret hB hm hn (Xj _) (Xj _) (by omega) (by omega)
  rw[Xg,Xg]at h1
  have hlen:(Xc (x.natAbs+y.natAbs)).length<1000000000000:=by
   have:=Vu x.natAbs y.natAbs
   omega
  obtain⟨e,h2,h3⟩:=Wz hB (decide (x<0)) (l:=.lst (wsP (Xc (x.natAbs+y.natAbs)))) .lst (Xj _) hlen
  rw[Xg]at h3
  refine⟨e,Ret.of (hB.tab _ _ rfl) ((h1.evt.and (h2.evt.and hB.evt)).mono fun E K ⟨e1,e2,hm2⟩=> ?_),?_⟩
  ·obtain⟨l,rfl,-⟩:=h3
   rw[<-hs]
   have hq:(decide (x<0)==decide (x<0))=true:=beq_self_eq_true _
   simp(decide:=true)only[EVS,EVN,reduceIte,Nat.reduceAdd,x151,hm2,MDS,e1,e2,hq]
  ·have :x+y=(if decide (x<0)=true then -((x.natAbs+y.natAbs:Nat):Int)else((x.natAbs+y.natAbs:Nat):Int)):=by
    by_cases h:x<0
    ·have k:y<0:=by simpa[h]using hs
     simp only[h,decide_true,if_true];omega
    ·have k:¬y<0:=by simpa[h]using hs
     simp only[h,decide_false,Zs,if_false];omega
   rw[this];exact h3
 ·have hq:(decide (x<0)==decide (y<0))=false:=by simpa using hs
  have h0:=compare_ret hB hm hn (Xj _) (Xj _) (Wh _) (Wh _) (by omega) (by omega)
  rw[Xg,Xg]at h0
  have hxy:(x<0/\¬y<0)\/(¬x<0/\y<0):=by
   by_cases h:x<0<;>by_cases k:y<0<;>simp[h,k]at hs⊢
  by_cases hle:y.natAbs<=x.natAbs
  ·have h1:=diff_ret hB hm hn (Xj _) (Xj _) (Xs hle) (by omega) (by rw[Xg,Xg];exact hle)
   rw[Xg,Xg]at h1
   have hlen:(Xc (x.natAbs-y.natAbs)).length<1000000000000:=by
    have:=Xs (Nat.sub_le x.natAbs y.natAbs)
    omega
   obtain⟨e,h2,h3⟩:=Wz hB (decide (x<0)) (l:=.lst (wsP (Xc (x.natAbs-y.natAbs)))) .lst (Xj _) hlen
   rw[Xg]at h3
   refine⟨e,Ret.of (hB.tab _ _ rfl) ((h0.evt.and (h1.evt.and (h2.evt.and hB.evt))).mono fun E K ⟨e0,e1,e2,hm2⟩=> ?_),?_⟩
   ·obtain⟨l,rfl,-⟩:=h3
    simp(decide:=true)only[EVS,EVN,reduceIte,Nat.reduceAdd,x151,hm2,MDS,e0,e1,e2,hq,leF_cmpI,hle]
   ·have :x+y=(if decide (x<0)=true then -((x.natAbs-y.natAbs:Nat):Int)else((x.natAbs-y.natAbs:Nat):Int)):=by
     rcases hxy with⟨h,k⟩|⟨h,k⟩
     ·simp only[h,decide_true,if_true];omega
     ·simp only[h,decide_false,Zs,if_false];omega
    rw[this];exact h3
  ·have h1:=diff_ret hB hn hm (Xj _) (Xj _) (Xs (by omega)) (by omega) (by rw[Xg,Xg];omega)
   rw[Xg,Xg]at h1
   have hlen:(Xc (y.natAbs-x.natAbs)).length<1000000000000:=by
    have:=Xs (Nat.sub_le y.natAbs x.natAbs)
    omega
   obtain⟨e,h2,h3⟩:=Wz hB (decide (y<0)) (l:=.lst (wsP (Xc (y.natAbs-x.natAbs)))) .lst (Xj _) hlen
   rw[Xg]at h3
   refine⟨e,Ret.of (hB.tab _ _ rfl) ((h0.evt.and (h1.evt.and (h2.evt.and hB.evt))).mono fun E K ⟨e0,e1,e2,hm2⟩=> ?_),?_⟩
   ·obtain⟨l,rfl,-⟩:=h3
    simp(decide:=true)only[EVS,EVN,reduceIte,Nat.reduceAdd,x151,hm2,MDS,e0,e1,e2,hq,leF_cmpI,hle]
   ·have :x+y=(if decide (y<0)=true then -((y.natAbs-x.natAbs:Nat):Int)else((y.natAbs-x.natAbs:Nat):Int)):=by
     rcases hxy with⟨h,k⟩|⟨h,k⟩
     ·simp only[k,decide_false,Zs,if_false];omega
     ·simp only[k,decide_true,if_true];omega
    rw[this];exact h3
theorem U5 {B:Base}(hB:Std B){c d:List PL}{x y:Int}(hc:IsI c x)(hd:IsI d y)(hx:Sm x)(hy:Sm y):∃e,Ret B 131 [.one (.lst [c,d])] (.agg e)/\IsI e (x*y):=by
 obtain⟨u,h1,hu⟩:=of_ret hB (m:=1) (by decide)
 have o1:=Tx hB hu
 have o2:=Tx hB hc
 have o3:=Tx hB hd
 obtain⟨u1,u2,eu⟩:=hu.len
 obtain⟨c1,c2,ec⟩:=hc.len
 obtain⟨d1,d2,ed⟩:=hd.len
 subst eu ec ed
 rw[decide_eq_true (by rfl:((1:Nat):Int)=1)]at o1
 by_cases hx1:x=1
 ·rw[decide_eq_true hx1]at o2
  by_cases hy1:y=1
  ·rw[decide_eq_true hy1]at o3
   refine⟨_,Ret.of (hB.tab _ _ rfl) ((h1.evt.and (o1.evt.and (o2.evt.and (o3.evt.and (hB.evt.and (Evt.ge 3)))))).mono fun E K ⟨e1,e2,e3,e4,hm,hK⟩=> ?_),by rw[hx1,hy1];exact hu⟩
   obtain⟨K',rfl⟩:∃K',K=K'+3:=⟨K-3,by omega⟩
   have f1:Xd .i64 (.ofNat 1)=.ofNat 1:=rfl
   have f2:Xd .i64 (.ofNat 2)=.ofNat 2:=rfl
   simp(decide:=true)only[EVS,EVN,reduceIte,Nat.reduceAdd,x131,x131_1,Xa,hm,MDS,e1,e3,e4,f1,f2]
  ·rw[decide_eq_false hy1]at o3
   refine⟨_,Ret.of (hB.tab _ _ rfl) ((h1.evt.and (o1.evt.and (o2.evt.and (o3.evt.and (hB.evt.and (Evt.ge 3)))))).mono fun E K ⟨e1,e2,e3,e4,hm,hK⟩=> ?_),by rw[hx1,Int.one_mul];exact hd⟩
   obtain⟨K',rfl⟩:∃K',K=K'+3:=⟨K-3,by omega⟩
   have f1:Xd .i64 (.ofNat 1)=.ofNat 1:=rfl
   have f2:Xd .i64 (.ofNat 2)=.ofNat 2:=rfl
   simp(decide:=true)only[EVS,EVN,reduceIte,Nat.reduceAdd,x131,x131_1,Xa,hm,MDS,e1,e2,e3,e4,f1,f2]
 ·have o2':=o2
  rw[decide_eq_false hx1]at o2
  by_cases hy1:y=1
  ·rw[decide_eq_true hy1]at o3
   refine⟨_,Ret.of (hB.tab _ _ rfl) ((h1.evt.and (o1.evt.and (o2.evt.and (o3.evt.and (hB.evt.and (Evt.ge 3)))))).mono fun E K ⟨e1,e2,e3,e4,hm,hK⟩=> ?_),by rw[hy1,Int.mul_one];exact hc⟩
   obtain⟨K',rfl⟩:∃K',K=K'+3:=⟨K-3,by omega⟩
   have f1:Xd .i64 (.ofNat 1)=.ofNat 1:=rfl
   have f2:Xd .i64 (.ofNat 2)=.ofNat 2:=rfl
   simp(decide:=true)only[EVS,EVN,reduceIte,Nat.reduceAdd,x131,x131_1,Xa,hm,MDS,e1,e2,e3,e4,f1,f2]
  ·rw[decide_eq_false hy1]at o3
   obtain⟨e,h2,he⟩:=mul_ret hB hc hd hx hy
   obtain⟨e1,e2,ee⟩:=he.len
   subst ee
   refine⟨_,Ret.of (hB.tab _ _ rfl) ((h1.evt.and (o1.evt.and (o2.evt.and (o3.evt.and (h2.evt.and (hB.evt.and (Evt.ge 3))))))).mono fun E K ⟨e1,e2,e3,e4,e5,hm,hK⟩=> ?_),he⟩
   obtain⟨K',rfl⟩:∃K',K=K'+3:=⟨K-3,by omega⟩
   have f1:Xd .i64 (.ofNat 1)=.ofNat 1:=rfl
   have f2:Xd .i64 (.ofNat 2)=.ofNat 2:=rfl
   simp(decide:=true)only[EVS,EVN,reduceIte,Nat.reduceAdd,x131,x131_1,Xa,hm,MDS,e1,e2,e3,e4,e5,f1,f2]
def IsZ (c:List PL)(z:Int):Prop:=∃n m d e,c=[.bool n,m,.bool d,e]/\IsI [.bool n,m] z/\IsI [.bool d,e] 1
theorem lowest_one {B:Base}(hB:Std B){c d:List PL}{x:Int}(hc:IsI c x)(hd:IsI d 1):Ret B 130 [.agg c,.agg d] (.agg (c++d)):=by
 have o1:=Tx hB hd
 obtain⟨c1,c2,ec⟩:=hc.len
 obtain⟨d1,d2,ed⟩:=hd.len
 subst ec ed
 rw[decide_eq_true rfl]at o1
 refine Ret.of (hB.tab _ _ rfl) ((o1.evt.and hB.evt).mono fun E K ⟨e1,hm⟩=> ?_)
 simp(decide:=true)only[EVS,EVN,reduceIte,Nat.reduceAdd,x130,hm,MDS,e1]
end Go.Proofs.YtefpgecinlekpaaGreat
