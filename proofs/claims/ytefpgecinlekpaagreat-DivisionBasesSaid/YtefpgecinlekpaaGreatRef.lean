/- The reference's integers: words. -/
import Derived.Test.YtefpgecinlekpaaGreatInt
namespace Go.Proofs.YtefpgecinlekpaaGreat
open Go.Ev Go.Num
theorem rtrim_loop {E:Oracle}{K:Nat}{l:PL}{ws:List Nat}(s:SlW l ws)(hl:ws.length<9223372036854775808):∀(n k:Nat) (H:List Blk),n<k->n<=ws.length->
  ∃T',Xa E K 0 [0,3] x149_1 k ⟨[(0,.one (.p l)),(3,.one (.p (.int .i64 (.ofNat n))))],H⟩=some (.exit 0,⟨T',H⟩)/\Xf T' 0=some (.one (.p l))/\Xf T' 3=some (.one (.p (.int .i64 (.ofNat (Wr (ws.take n)).length))))
 |_,0,_,h,_=>by omega
 |0,k+1,H,_,_=>by
  apply ex1
  ·rw[Xa]
   simp only[EVS,EVN,reduceIte,Nat.reduceEqDiff,x149_1,ZA]
   rfl
  ·simp only[EVS,reduceIte,Nat.reduceEqDiff,Wr,and_self]
 |n+1,k+1,H,hk,hn=>by
  obtain⟨w,hw⟩:∃w,ws[n]? =some w:=⟨_,Zf (by omega)⟩
  have h1:Xd .i64 (Int.ofNat (n+1)-Int.ofNat 1)=Int.ofNat n:=XI (by omega) (by omega)
  rw[take_snoc hw,trim_snoc]
  by_cases h0:w=0
  ·subst h0
   obtain⟨T',g1,g2⟩:=rtrim_loop s hl n k H (by omega) (by omega)
   refine⟨T',?_,g2⟩
   rw[Xa]
   simp only[EVS,EVN,reduceIte,Nat.reduceEqDiff,x149_1,YA,h1,s.idx hw]
   exact g1
  ·apply ex1
   ·rw[Xa]
    simp only[EVS,EVN,reduceIte,Nat.reduceEqDiff,x149_1,YA,h1,s.idx hw,h0]
    rfl
   ·simp only[EVS,reduceIte,Nat.reduceEqDiff,h0,Zm,ZK,Yg (show n<=ws.length by omega),and_self]
theorem UF {B:Base}(hB:Std B){ws:List Nat}(hl:ws.length<9223372036854775808):Ret B 149 [.one (.lst (wsP ws))] (.one (.lst (wsP (Wr ws)))):=by
 have s:SlW (.lst (wsP ws)) ws:=.lst
 refine Ret.of (hB.tab _ _ rfl) ((Evt.ge (ws.length+1)).mono fun E K hK=> ?_)
 obtain⟨T',g1,g2,g3⟩:=rtrim_loop (E:=E) (K:=K) s hl ws.length K [] (by omega) (Zg _)
 rw[Yc]at g3
 have h1:∀h,X6 1 h (.p (.lst (wsP ws))) 0 (some (Wr ws).length)=some (.p (.lst (wsP (Wr ws))),[]):=by
  intro h
  obtain⟨r,h1,h2⟩:=s.upto (n:=(Wr ws).length) (trim_len ws)
  have:=h1 h
  rw[<-trim_eq]at h2
  rcases h2 with rfl|⟨-,rfl⟩
  ·exact this
  ·simp only[X6]at this
   obtain⟨-,h3⟩:=Xk this
   simp at h3
 simp only[EVS,EVN,reduceIte,Nat.reduceEqDiff,Nat.reduceLeDiff,x149,s.len,g1,g2,g3,h1]
theorem rtrim_ret {B:Base}(hB:Std B){l:PL}{ws:List Nat}(s:SlW l ws)(hl:ws.length<9223372036854775808):∃r,Ret B 149 [.one l] (.one r)/\SlW r (Wr ws):=by
 obtain⟨r,h1,h2⟩:=s.upto (n:=(Wr ws).length) (trim_len ws)
 rw[<-trim_eq]at h2
 refine⟨r,Ret.of (hB.tab _ _ rfl) ((Evt.ge (ws.length+1)).mono fun E K hK=> ?_),h2⟩
 obtain⟨T',g1,g2,g3⟩:=rtrim_loop (E:=E) (K:=K) s hl ws.length K [] (by omega) (Zg _)
 rw[Yc]at g3
 simp only[EVS,EVN,reduceIte,Nat.reduceEqDiff,Nat.reduceLeDiff,x149,s.len,g1,g2,g3,h1]
theorem compared_loop {E:Oracle}{K:Nat}{la lb:PL}{a b:List Nat}(sa:SlW la a)(sb:SlW lb b)(da:Dig a)(db:Dig b)(hab:a.length=b.length)(hl:a.length<1000000000000):∀(n k:Nat) (H:List Blk),n<k->n<=a.length->
  ∃ex T',Xa E K 0 [0,1,5] x142_1 k ⟨[(0,.one (.p la)),(1,.one (.p lb)),(5,.one (.p (.int .i64 (pI n))))],H⟩=some (ex,⟨T',H⟩)/\
   ((val (a.take n)=val (b.take n)/\ex=.exit 0)\/(val (a.take n)<val (b.take n)/\ex=.ret/\Xf T' 4=some (.one (.p (.int .i64 (.negSucc 0)))))\/(val (b.take n)<val (a.take n)/\ex=.ret/\Xf T' 4=some (.one (.p (.int .i64 (.ofNat 1))))))
 |_,0,_,h,_=>by omega
 |0,k+1,H,_,_=>by
  refine⟨.exit 0,?_⟩
  apply ex1
  ·rw[Xa]
   simp only[EVS,EVN,reduceIte,Nat.reduceEqDiff,x142_1,pI]
   rfl
  ·exact .inl ⟨rfl,rfl⟩
 |n+1,k+1,H,hk,hn=>by
  obtain⟨w,hw⟩:∃w,a[n]? =some w:=⟨_,Zf (by omega)⟩
  obtain⟨v,hv⟩:∃v,b[n]? =some v:=⟨_,Zf (by omega)⟩
  have h1:=WV (n:=n) (by omega)
  have ha:val (a.take n)<4294967296^n:=by
   have:=Wf (ws:=a.take n) (fun x hx=>da x (YE hx))
   rwa[ZK,Yg (by omega)]at this
  have hb:val (b.take n)<4294967296^n:=by
   have:=Wf (ws:=b.take n) (fun x hx=>db x (YE hx))
   rwa[ZK,Yg (by omega)]at this
  rw[WC hw,WC hv]
  by_cases e:w=v
  ·subst e
   obtain⟨ex,T',g1,g2⟩:=compared_loop sa sb da db hab hl n k H (by omega) (by omega)
   refine⟨ex,T',?_,g2.imp (fun h=>⟨by omega,h.2⟩) fun h=>h.imp (fun h=>⟨by omega,h.2⟩) fun h=>⟨by omega,h.2⟩⟩
   rw[Xa]
   simp only[EVS,EVN,reduceIte,Nat.reduceEqDiff,x142_1,pI,Zr,sa.idx hw,sb.idx hv,h1,ZA]
   exact g1
  ·by_cases lt:w<v
   ·have:=Zn (4294967296^n) (show w+1<=v from lt)
    rw[ZJ,Z9]at this
    refine⟨.ret,?_⟩
    apply ex1
    ·rw[Xa]
     simp only[EVS,EVN,reduceIte,Nat.reduceEqDiff,x142_1,pI,Zr,sa.idx hw,sb.idx hv,lt]
     rfl
    ·exact .inr (.inl ⟨by omega,rfl,by simp only[EVS,reduceIte,Nat.reduceEqDiff]⟩)
   ·have:=Zn (4294967296^n) (show v+1<=w by omega)
    rw[ZJ,Z9]at this
    refine⟨.ret,?_⟩
    apply ex1
    ·rw[Xa]
     simp only[EVS,EVN,reduceIte,Nat.reduceEqDiff,x142_1,pI,Zr,sa.idx hw,sb.idx hv,lt,show v<w by omega]
     rfl
    ·exact .inr (.inr ⟨by omega,rfl,by simp only[EVS,reduceIte,Nat.reduceEqDiff]⟩)
theorem compared_ret {B:Base}(hB:Std B){la lb:PL}{a b:List Nat}(sa:SlW la a)(sb:SlW lb b)(da:Dig a)(db:Dig b)(ca:Canon a)(cb:Canon b)(ha:a.length<1000000000000)(hb:b.length<1000000000000):
  Ret B 142 [.one la,.one lb] (.one (.int .i64 (cmpI (val a) (val b)))):=by
 refine Ret.of (hB.tab _ _ rfl) ((Evt.ge (a.length+1)).mono fun E K hK=> ?_)
 by_cases hab:a.length=b.length
 ·obtain⟨ex,T',g1,g2⟩:=compared_loop (E:=E) (K:=K) sa sb da db hab ha a.length K [] (by omega) (Zg _)
  rw[Yc,hab,Yc]at g2
  rw[hab]at g1
  have h1:=WV (n:=b.length) (by omega)
  unfold cmpI
  rcases g2 with⟨e,rfl⟩|⟨e,rfl,g2⟩|⟨e,rfl,g2⟩
  ·simp only[EVS,EVN,reduceIte,Nat.reduceEqDiff,Nat.reduceLeDiff,x142,sa.len,sb.len,hab,ZA,h1,g1,e,ZA]
  ·simp only[EVS,EVN,reduceIte,Nat.reduceEqDiff,Nat.reduceLeDiff,x142,sa.len,sb.len,hab,ZA,h1,g1,e,g2]
  ·simp only[EVS,EVN,reduceIte,Nat.reduceEqDiff,Nat.reduceLeDiff,x142,sa.len,sb.len,hab,ZA,h1,g1,e,g2,Nat.lt_asymm e]
 ·have lt:∀{a b:List Nat},Dig a->Canon b->a.length<b.length->val a<val b:=by
   intro a b da cb h
   have h1:=ZQ (Wf da) (WA (Nat.le_of_lt_succ (by omega:a.length<b.length-1+1)))
   exact ZQ h1 (SM cb (by omega))
  unfold cmpI
  by_cases h:a.length<b.length
  ·have e:=lt da cb h
   simp only[EVS,EVN,reduceIte,Nat.reduceEqDiff,Nat.reduceLeDiff,x142,sa.len,sb.len,h,e]
  ·have e:=lt db ca (by omega)
   simp only[EVS,EVN,reduceIte,Nat.reduceEqDiff,Nat.reduceLeDiff,x142,sa.len,sb.len,h,show b.length<a.length by omega,e,Nat.lt_asymm e]
theorem Tw {B:Base}(hB:Std B){l:PL}{ws:List Nat}(s:SlW l ws)(d:Dig ws)(i:Nat):Ret B 174 [.one l,.one (.int .i64 (.ofNat i))] (.one (.int .u64 (.ofNat (ws[i]?.getD 0)))):=by
 refine Ret.of (hB.tab _ _ rfl) (Evt.of fun K n=> ?_)
 by_cases h:i<ws.length
 ·obtain⟨w,hw⟩:∃w,ws[i]? =some w:=⟨_,Zf h⟩
  have f1:w%18446744073709551616=w:=Zd (by have:=d.get hw;omega)
  simp only[EVS,EVN,reduceIte,Nat.reduceEqDiff,Nat.reduceLeDiff,x174,s.len,h,s.idx hw,f1,hw,Option.getD_some]
 ·have hw:ws[i]? =none:=Ys (by omega)
  simp only[EVS,EVN,reduceIte,Nat.reduceEqDiff,Nat.reduceLeDiff,x174,s.len,h,hw,Option.getD_none]
theorem Uu {ws:List Nat}(d:Dig ws)(i:Nat):ws[i]?.getD 0<4294967296:=by
 cases h:ws[i]? with
 |none=>simp
 |some w=>exact d.get h
theorem added_loop {E:Oracle}{K:Nat}{la lb:PL}{a b:List Nat}(da:Dig a)(db:Dig b){n:Nat}(hn:n<1000000000000)(hm:E.mode=md)
  (ea:∀i,i<n->E.pure 174 [.one la,.one (.int .i64 (.ofNat i))]=some (.one (.int .u64 (.ofNat (a[i]?.getD 0)))))
  (eb:∀i,i<n->E.pure 174 [.one lb,.one (.int .i64 (.ofNat i))]=some (.one (.int .u64 (.ofNat (b[i]?.getD 0))))) (t:Nat):
  ∀(d i k:Nat) (r:List Nat) (cy:Nat),i+d=n->d<k->r.length=n->Dig r->cy<2->(∀j,i<=j->j<n->r[j]? =some 0)->val r+cy*4294967296^i=val (a.take i)+val (b.take i)->
  ∃T' r' cy',Xa E K 0 [0,1,5,6,7,8] x146_1 k ⟨[(0,.one (.p la)),(1,.one (.p lb)),(5,.one (.p (.int .i64 (.ofNat n)))),(6,.one (.own 0 0 0 n)),(7,.one (.p (.int .u64 (.ofNat cy)))),(8,.one (.p (.int .i64 (.ofNat i))))],[⟨false,0,1,wsD r,false,t⟩]⟩=some (.exit 0,⟨T',[⟨false,0,1,wsD r',false,t⟩]⟩)/\
   Xf T' 6=some (.one (.own 0 0 0 n))/\r'.length=n/\Dig r'/\val r'+cy'*4294967296^n=val (a.take n)+val (b.take n)
 |_,_,0,_,_,_,h,_,_,_,_,_=>by omega
 |0,i,k+1,r,cy,hi,_,h1,h2,h3,h4,h5=>by
  obtain rfl:i=n:=by omega
  have :∃T',Xa E K 0 [0,1,5,6,7,8] x146_1 (k+1) ⟨[(0,.one (.p la)),(1,.one (.p lb)),(5,.one (.p (.int .i64 (.ofNat i)))),(6,.one (.own 0 0 0 i)),(7,.one (.p (.int .u64 (.ofNat cy)))),(8,.one (.p (.int .i64 (.ofNat i))))],[⟨false,0,1,wsD r,false,t⟩]⟩=some (.exit 0,⟨T',[⟨false,0,1,wsD r,false,t⟩]⟩)/\Xf T' 6=some (.one (.own 0 0 0 i)):=by
   apply ex1
   ·rw[Xa]
    simp only[EVS,EVN,reduceIte,Nat.reduceEqDiff,x146_1,ZA]
    rfl
   ·simp only[EVS,reduceIte,Nat.reduceEqDiff]
  obtain⟨T',g1,g2⟩:=this
  exact⟨T',r,cy,g1,g2,h1,h2,h5⟩
 |d+1,i,k+1,r,cy,hi,hk,h1,h2,h3,h4,h5=>by
  have hlt:i<n:=by omega
  have hw2:=Uu da i
  have hv2:=Uu db i
  have ea1:=ea i hlt
  have eb1:=eb i hlt
  have e3:=val_takeD a i
  have e4:=val_takeD b i
  generalize a[i]?.getD 0=w at *
  generalize b[i]?.getD 0=v at *
  have hr:=h4 i (Zg _) (by omega)
  have f1:(w+v)%18446744073709551616=w+v:=Zd (by omega)
  have f2:(w+v+cy)%18446744073709551616=w+v+cy:=Zd (by omega)
  have f3:Xd .i64 (.ofNat (i+1))=.ofNat (i+1):=wrap_i64 (by omega)
  have f4:(w+v+cy)%4294967296%4294967296=(w+v+cy)%4294967296:=Nat.mod_mod _ _
  have f5:(w+v+cy) / 4294967296%18446744073709551616=(w+v+cy) / 4294967296:=Zd (by omega)
  have q1:V0 .u64 (.ofNat (w+v+cy)) (.ofNat 4294967296)=some (.p (.int .u64 (.ofNat ((w+v+cy)%4294967296)))):=rfl
  have q2:Ua .u64 (.ofNat (w+v+cy)) (.ofNat 4294967296)=some (.p (.int .u64 (Xd .u64 (.ofNat ((w+v+cy) / 4294967296))))):=rfl
  obtain⟨T',r',cy',g1,g2⟩:=added_loop da db hn hm ea eb t d (i+1) k (r.set i ((w+v+cy)%4294967296)) ((w+v+cy) / 4294967296) (by omega) (by omega) (by simpa using h1) (h2.set i (by omega)) (by omega)
   (fun j hj1 hj2=>by rw[Zz (by omega)];exact h4 j (by omega) hj2) (by
    have e1:=V4 (w:=(w+v+cy)%4294967296) hr
    rw[e3,e4]
    have e2:(w+v+cy)%4294967296+4294967296*((w+v+cy) / 4294967296)=w+v+cy:=Nat.mod_add_div _ _
    rw[ZD]
    clear f4 f5 q1 q2 f1 f2
    generalize (w+v+cy)%4294967296=x at *
    generalize (w+v+cy) / 4294967296=y at *
    generalize 4294967296^i=p at *
    grind)
  refine⟨T',r',cy',?_,g2⟩
  rw[Xa]
  simp only[EVS,EVN,reduceIte,Nat.reduceEqDiff,Nat.reduceLeDiff,x146_1,hlt,hm,MDS,ea1,eb1,f1,f2,f3,f4,f5,q1,q2,XB hr,X5]
  exact g1
theorem added_ret {B:Base}(hB:Std B){la lb:PL}{a b:List Nat}(sa:SlW la a)(sb:SlW lb b)(da:Dig a)(db:Dig b)(ha:a.length<100000000000)(hb:b.length<100000000000):
  Ret B 146 [.one la,.one lb] (.one (.lst (wsP (Xc (val a+val b))))):=by
 obtain⟨n,hn⟩:∃n,n=max a.length b.length+1:=⟨_,rfl⟩
 have hv:val a+val b<4294967296^n:=by
  have h1:=ZQ (Wf da) (WA (show a.length<=n-1 by omega))
  have h2:=ZQ (Wf db) (WA (show b.length<=n-1 by omega))
  have :4294967296^n=4294967296^(n-1)*4294967296:=by rw[<-ZD];congr 1;omega
  omega
 have h1:=UF hB (ws:=dg n (val a+val b)) (by rw[XH];omega)
 rw[Ul hv]at h1
 refine Ret.of (hB.tab _ _ rfl) (((Evt.ge (n+1)).and (h1.evt.and (hB.evt.and ((Evt.all n fun i _=>(Tw hB sa da i).evt).and (Evt.all n fun i _=>(Tw hB sb db i).evt))))).mono fun E K ⟨hK,e1,hm,ea,eb⟩=> ?_)
 obtain⟨T',r',cy',g1,g2,g3,g4,g5⟩:=added_loop (E:=E) (K:=K) da db (show n<1000000000000 by omega) hm ea eb 161 n 0 K (List.replicate n 0) 0 (by omega) (by omega) (by simp) (Dig.replicate _) (by decide)
  (fun j _ hj=>by rw[YF,if_pos (by omega)]) (by rw[W5];simp[val])
 rw[Ze (show a.length<=n by omega),Ze (show b.length<=n by omega)]at g5
 have hr':r'=dg n (val a+val b):=by
  have hc:cy'=0:=by
   rcases Z0 cy' with h|h
   ·exact h
   ·have:=Zn (4294967296^n) h
    omega
  subst hc
  exact V8 g4 g3 (by omega)
 subst hr'
 have f0:maxD ltF .i64 (.ofNat a.length) [.one (.p (.int .i64 (.ofNat b.length)))]=some (.one (.p (.int .i64 (.ofNat (n-1))))):=by
  simp only[maxD,keq,kidx,YH,cond_true,ltF_nn]
  by_cases h:a.length<b.length
  ·simp only[h,decide_true,cond_true];congr 5;omega
  ·simp only[h,decide_false,cond_false];congr 5;omega
 have f1:Xd .i64 (.ofNat (n-1+1))=.ofNat n:=by rw[show n-1+1=n by omega];exact wrap_i64 (by omega)
 have f2:4*n<=lim:=by unfold lim;omega
 have f3:n<=9223372036854775807:=by omega
 have f4:∀v,Uc ltF (.one (.p (.int .i64 (.ofNat a.length)))::v)=(match maxD ltF .i64 (.ofNat a.length) v with |some v=>some ⟨v,[],[],[]⟩|none=>none):=fun _=>rfl
 simp only[EVS,EVN,reduceIte,Nat.reduceEqDiff,Nat.reduceLeDiff,x146,sa.len,sb.len,f4,f0,f1,f2,f3,Zg,VU,g1,g2,VY _ (YG (XH n (val a+val b))),Ws,XH,Vb,Vl,hm,MDS,e1]
theorem Si {a b:Nat}(h:b<=a)(h2:a<18446744073709551616):Xd .u64 (.ofNat a-.ofNat b)=.ofNat (a-b):=by
 rw[Um h,wrap_u64,Zd (by omega)]
theorem taken_loop {E:Oracle}{K:Nat}{la lb:PL}{a b:List Nat}(sa:SlW la a)(da:Dig a)(db:Dig b)(hl:a.length<1000000000000)(hm:E.mode=md)
  (eb:∀i,i<a.length->E.pure 174 [.one lb,.one (.int .i64 (.ofNat i))]=some (.one (.int .u64 (.ofNat (b[i]?.getD 0))))) (t:Nat):
  ∀(d i k:Nat) (r:List Nat) (bw:Nat),i+d=a.length->d<k->r.length=a.length->Dig r->bw<2->(∀j,i<=j->j<a.length->r[j]? =some 0)->val r+val (b.take i)=val (a.take i)+bw*4294967296^i->
  ∃T' r' bw',Xa E K 0 [0,1,5,6,7] x147_1 k ⟨[(0,.one (.p la)),(1,.one (.p lb)),(5,.one (.own 0 0 0 a.length)),(6,.one (.p (.int .u64 (.ofNat bw)))),(7,.one (.p (.int .i64 (.ofNat i))))],[⟨false,0,1,wsD r,false,t⟩]⟩=some (.exit 0,⟨T',[⟨false,0,1,wsD r',false,t⟩]⟩)/\
   Xf T' 5=some (.one (.own 0 0 0 a.length))/\r'.length=a.length/\Dig r'/\val r'+val (b.take a.length)=val a+bw'*4294967296^a.length
 |_,_,0,_,_,_,h,_,_,_,_,_=>by omega
 |0,i,k+1,r,bw,hi,_,h1,h2,h3,h4,h5=>by
  obtain rfl:i=a.length:=by omega
  rw[Yc]at h5
  have :∃T',Xa E K 0 [0,1,5,6,7] x147_1 (k+1) ⟨[(0,.one (.p la)),(1,.one (.p lb)),(5,.one (.own 0 0 0 a.length)),(6,.one (.p (.int .u64 (.ofNat bw)))),(7,.one (.p (.int .i64 (.ofNat a.length))))],[⟨false,0,1,wsD r,false,t⟩]⟩=some (.exit 0,⟨T',[⟨false,0,1,wsD r,false,t⟩]⟩)/\
    Xf T' 5=some (.one (.own 0 0 0 a.length)):=by
   apply ex1
   ·rw[Xa]
    simp only[EVS,EVN,reduceIte,Nat.reduceEqDiff,x147_1,sa.len,ZA]
    rfl
   ·simp only[EVS,reduceIte,Nat.reduceEqDiff]
  obtain⟨T',g1,g2⟩:=this
  exact⟨T',r,bw,g1,g2,h1,h2,h5⟩
 |d+1,i,k+1,r,bw,hi,hk,h1,h2,h3,h4,h5=>by
  obtain⟨w,hw⟩:∃w,a[i]? =some w:=⟨_,Zf (by omega)⟩
  have hlt:i<a.length:=by omega
  have hw2:=da.get hw
  have hr:=h4 i (Zg _) (by omega)
  have hv2:=Uu db i
  have eb1:=eb i hlt
  have e4:=val_takeD b i
  generalize b[i]?.getD 0=v at *
  have f1:w%18446744073709551616=w:=Zd (by omega)
  have f2:(4294967296+w)%18446744073709551616=4294967296+w:=Zd (by omega)
  have f3:Xd .i64 (.ofNat (i+1))=.ofNat (i+1):=wrap_i64 (by omega)
  have f4:=Si (a:=4294967296+w) (b:=v) (by omega) (by omega)
  have f5:=Si (a:=4294967296+w-v) (b:=bw) (by omega) (by omega)
  obtain⟨s,hs⟩:∃s,s=4294967296+w-v-bw:=⟨_,rfl⟩
  rw[<-hs]at f5
  have f6:s%4294967296%4294967296=s%4294967296:=Nat.mod_mod _ _
  have f7:s / 4294967296%18446744073709551616=s / 4294967296:=Zd (by omega)
  have f8:=Si (a:=1) (b:=s / 4294967296) (by omega) (by omega)
  have q1:V0 .u64 (.ofNat s) (.ofNat 4294967296)=some (.p (.int .u64 (.ofNat (s%4294967296)))):=rfl
  have q2:Ua .u64 (.ofNat s) (.ofNat 4294967296)=some (.p (.int .u64 (Xd .u64 (.ofNat (s / 4294967296))))):=rfl
  have rel:s%4294967296+bw+v=w+4294967296*(1-s / 4294967296):=by omega
  obtain⟨T',r',bw',g1,g2⟩:=taken_loop sa da db hl hm eb t d (i+1) k (r.set i (s%4294967296)) (1-s / 4294967296) (by omega) (by omega) (by simpa using h1) (h2.set i (by omega)) (by omega)
   (fun j hj1 hj2=>by rw[Zz (by omega)];exact h4 j (by omega) hj2) (by
    have e1:=V4 (w:=s%4294967296) hr
    rw[WC hw,e4,ZD]
    clear q1 q2 f6 f7 f8 f5 hs
    generalize s%4294967296=x at *
    generalize 1-s / 4294967296=y at *
    generalize 4294967296^i=p at *
    grind)
  refine⟨T',r',bw',?_,g2⟩
  rw[Xa]
  simp only[EVS,EVN,reduceIte,Nat.reduceEqDiff,Nat.reduceLeDiff,x147_1,sa.len,hlt,sa.idx hw,hm,MDS,eb1,f1,f2,f3,f4,f5,f6,f7,f8,q1,q2,XB hr,X5]
  exact g1
theorem taken_ret {B:Base}(hB:Std B){la lb:PL}{a b:List Nat}(sa:SlW la a)(sb:SlW lb b)(da:Dig a)(db:Dig b)(hab:b.length<=a.length)(hl:a.length<100000000000)(hv:val b<=val a):
  Ret B 147 [.one la,.one lb] (.one (.lst (wsP (Xc (val a-val b))))):=by
 have hva:=Wf da
 have h1:=UF hB (ws:=dg a.length (val a-val b)) (by rw[XH];omega)
 rw[Ul (by omega)]at h1
 refine Ret.of (hB.tab _ _ rfl) (((Evt.ge (a.length+1)).and (h1.evt.and (hB.evt.and (Evt.all a.length fun i _=>(Tw hB sb db i).evt)))).mono fun E K ⟨hK,e1,hm,eb⟩=> ?_)
 obtain⟨T',r',bw',g1,g2,g3,g4,g5⟩:=taken_loop (E:=E) (K:=K) sa da db (by omega) hm eb 161 a.length 0 K (List.replicate a.length 0) 0 (by omega) (by omega) (by simp) (Dig.replicate _) (by decide)
  (fun j _ hj=>by rw[YF,if_pos (by omega)]) (by rw[W5];simp[val])
 rw[Ze hab]at g5
 have hr':r'=dg a.length (val a-val b):=by
  have:=Wf g4
  rw[g3]at this
  have hb0:bw'=0:=by
   rcases Z0 bw' with h|h
   ·exact h
   ·have:=Zn (4294967296^a.length) h
    omega
  subst hb0
  exact V8 g4 g3 (by omega)
 subst hr'
 have f2:4*a.length<=lim:=by unfold lim;omega
 have f3:a.length<=9223372036854775807:=by omega
 simp only[EVS,EVN,reduceIte,Nat.reduceEqDiff,Nat.reduceLeDiff,x147,sa.len,f2,f3,Zg,VU,g1,g2,VY _ (YG (XH a.length (val a-val b))),Ws,XH,Vb,Vl,hm,MDS,e1]
theorem times_in {E:Oracle}{K:Nat}{la lb:PL}{a b:List Nat}(sa:SlW la a)(sb:SlW lb b)(db:Dig b)(hl:a.length+b.length<1000000000000)(t:Nat){i x:Nat}(hi:a[i]? =some x)(hx:x<4294967296)(V:Nat):
  ∀(d j k:Nat) (r:List Nat) (cy:Nat),j+d=b.length->d<k->r.length=a.length+b.length->Dig r->cy<4294967296->(∀p,i+b.length<=p->p<a.length+b.length->r[p]? =some 0)->val r+cy*4294967296^(i+j)+x*4294967296^(i+j)*val (b.drop j)=V->
  ∃T' r' cy',Xa E K 0 [0,1,5,6,7,8] x148_1 k ⟨[(0,.one (.p la)),(1,.one (.p lb)),(5,.one (.own 0 0 0 (a.length+b.length))),(6,.one (.p (.int .i64 (.ofNat i)))),(7,.one (.p (.int .u64 (.ofNat cy)))),(8,.one (.p (.int .i64 (.ofNat j))))],[⟨false,0,1,wsD r,false,t⟩]⟩=some (.exit 2,⟨T',[⟨false,0,1,wsD r',false,t⟩]⟩)/\
   (Xf T' 0=some (.one (.p la))/\Xf T' 1=some (.one (.p lb))/\Xf T' 5=some (.one (.own 0 0 0 (a.length+b.length)))/\Xf T' 6=some (.one (.p (.int .i64 (.ofNat i))))/\Xf T' 7=some (.one (.p (.int .u64 (.ofNat cy')))))/\r'.length=a.length+b.length/\Dig r'/\cy'<4294967296/\(∀p,i+b.length<=p->p<a.length+b.length->r'[p]? =some 0)/\val r'+cy'*4294967296^(i+b.length)=V
 |_,_,0,_,_,_,h,_,_,_,_,_=>by omega
 |0,j,k+1,r,cy,hj,_,h1,h2,h3,h4,h5=>by
  obtain rfl:j=b.length:=by omega
  have :∃T',Xa E K 0 [0,1,5,6,7,8] x148_1 (k+1) ⟨[(0,.one (.p la)),(1,.one (.p lb)),(5,.one (.own 0 0 0 (a.length+b.length))),(6,.one (.p (.int .i64 (.ofNat i)))),(7,.one (.p (.int .u64 (.ofNat cy)))),(8,.one (.p (.int .i64 (.ofNat b.length))))],[⟨false,0,1,wsD r,false,t⟩]⟩=some (.exit 2,⟨T',[⟨false,0,1,wsD r,false,t⟩]⟩)/\(Xf T' 0=some (.one (.p la))/\Xf T' 1=some (.one (.p lb))/\Xf T' 5=some (.one (.own 0 0 0 (a.length+b.length)))/\Xf T' 6=some (.one (.p (.int .i64 (.ofNat i))))/\Xf T' 7=some (.one (.p (.int .u64 (.ofNat cy))))):=by
   apply ex1
   ·rw[Xa]
    simp only[EVS,EVN,reduceIte,Nat.reduceEqDiff,x148_1,sb.len,ZA]
    rfl
   ·simp only[EVS,reduceIte,Nat.reduceEqDiff,and_self]
  obtain⟨T',g1,g2⟩:=this
  refine⟨T',r,cy,g1,g2,h1,h2,h3,h4,?_⟩
  rw[List.drop_length]at h5
  simpa[val]using h5
 |d+1,j,k+1,r,cy,hj,hk,h1,h2,h3,h4,h5=>by
  have hia:i<a.length:=(Zb.1 hi).1
  have hlt:j<b.length:=by omega
  obtain⟨v,hv⟩:∃v,b[j]? =some v:=⟨_,Zf hlt⟩
  obtain⟨u,hu⟩:∃u,r[i+j]? =some u:=⟨_,Zf (by omega)⟩
  have hv2:=db.get hv
  have hu2:=h2.get hu
  have hb:=V1 hx hv2 hu2 h3
  have f0:x%18446744073709551616=x:=Zd (by omega)
  have f1:v%18446744073709551616=v:=Zd (by omega)
  have f2:u%18446744073709551616=u:=Zd (by omega)
  have f3:(x*v)%18446744073709551616=x*v:=Zd (by omega)
  have f4:(x*v+u)%18446744073709551616=x*v+u:=Zd (by omega)
  have f5:(x*v+u+cy)%18446744073709551616=x*v+u+cy:=Zd hb
  have f6:Xd .i64 (.ofNat (i+j))=.ofNat (i+j):=wrap_i64 (by omega)
  have f7:Xd .i64 (.ofNat (j+1))=.ofNat (j+1):=wrap_i64 (by omega)
  have f8:i+j<a.length+b.length:=by omega
  obtain⟨s,hs⟩:∃s,s=x*v+u+cy:=⟨_,rfl⟩
  rw[<-hs]at f5
  have f9:s%4294967296%4294967296=s%4294967296:=Nat.mod_mod _ _
  have f10:s / 4294967296%18446744073709551616=s / 4294967296:=Zd (by omega)
  have q1:V0 .u64 (.ofNat s) (.ofNat 4294967296)=some (.p (.int .u64 (.ofNat (s%4294967296)))):=rfl
  have q2:Ua .u64 (.ofNat s) (.ofNat 4294967296)=some (.p (.int .u64 (Xd .u64 (.ofNat (s / 4294967296))))):=rfl
  obtain⟨T',r',cy',g1,g2⟩:=times_in sa sb db hl t hi hx V d (j+1) k (r.set (i+j) (s%4294967296)) (s / 4294967296) (by omega) (by omega) (by simpa using h1) (h2.set _ (by omega)) (by omega)
   (fun p hp1 hp2=>by rw[Zz (by omega)];exact h4 p hp1 hp2) (by
    have e1:=V4 (w:=s%4294967296) hu
    rw[val_drop hv]at h5
    have e2:s%4294967296+4294967296*(s / 4294967296)=s:=Nat.mod_add_div _ _
    rw[show i+(j+1)=(i+j)+1 by omega,ZD]
    clear hb f3 f4 f5 f1 f2 q1 q2 f9 f10
    generalize s%4294967296=y at *
    generalize s / 4294967296=z at *
    generalize 4294967296^(i+j)=p at *
    grind)
  refine⟨T',r',cy',?_,g2⟩
  rw[hs]at f5 q1 q2 f9 f10 g1
  rw[Xa]
  simp only[EVS,EVN,reduceIte,Nat.reduceEqDiff,Nat.reduceLeDiff,x148_1,sb.len,hlt,sa.idx hi,sb.idx hv,f0,f1,f2,f3,f4,f5,f6,f7,f8,f9,f10,q1,q2,XB hu,X5]
  exact g1
theorem times_out {E:Oracle}{K:Nat}{la lb:PL}{a b:List Nat}(sa:SlW la a)(sb:SlW lb b)(da:Dig a)(db:Dig b)(hl:a.length+b.length<1000000000000)(hK:b.length<K)(t:Nat):
  ∀(d i k:Nat) (r:List Nat),i+d=a.length->d<k->r.length=a.length+b.length->Dig r->(∀p,i+b.length<=p->p<a.length+b.length->r[p]? =some 0)->val r=val (a.take i)*val b->
  ∃T' r',Xa E K 0 [0,1,5,6] x148_2 k ⟨[(0,.one (.p la)),(1,.one (.p lb)),(5,.one (.own 0 0 0 (a.length+b.length))),(6,.one (.p (.int .i64 (.ofNat i))))],[⟨false,0,1,wsD r,false,t⟩]⟩=some (.exit 0,⟨T',[⟨false,0,1,wsD r',false,t⟩]⟩)/\
   Xf T' 5=some (.one (.own 0 0 0 (a.length+b.length)))/\r'.length=a.length+b.length/\Dig r'/\val r'=val a*val b
 |_,_,0,_,_,h,_,_,_,_=>by omega
 |0,i,k+1,r,hi,_,h1,h2,h3,h4=>by
  obtain rfl:i=a.length:=by omega
  rw[Yc]at h4
  have :∃T',Xa E K 0 [0,1,5,6] x148_2 (k+1) ⟨[(0,.one (.p la)),(1,.one (.p lb)),(5,.one (.own 0 0 0 (a.length+b.length))),(6,.one (.p (.int .i64 (.ofNat a.length))))],[⟨false,0,1,wsD r,false,t⟩]⟩=some (.exit 0,⟨T',[⟨false,0,1,wsD r,false,t⟩]⟩)/\Xf T' 5=some (.one (.own 0 0 0 (a.length+b.length))):=by
   apply ex1
   ·rw[Xa]
    simp only[EVS,EVN,reduceIte,Nat.reduceEqDiff,x148_2,sa.len,ZA]
    rfl
   ·simp only[EVS,reduceIte,Nat.reduceEqDiff]
  obtain⟨T',g1,g2⟩:=this
  exact⟨T',r,g1,g2,h1,h2,h4⟩
 |d+1,i,k+1,r,hi,hk,h1,h2,h3,h4=>by
  have hlt:i<a.length:=by omega
  obtain⟨x,hx⟩:∃x,a[i]? =some x:=⟨_,Zf hlt⟩
  have hx2:=da.get hx
  obtain⟨T1,r1,cy,q1,⟨q2,q3,q4,q5,q6⟩,q9,q10,q11,q12,q13⟩:=times_in (E:=E) (K:=K) sa sb db hl t hx hx2 (val r+x*4294967296^i*val b) b.length 0 K r 0 (by omega) hK h1 h2 (by decide) h3 (by simp)
  have hz:=q12 (i+b.length) (Zg _) (by omega)
  obtain⟨T',r',g1,g2⟩:=times_out sa sb da db hl hK t d (i+1) k (r1.set (i+b.length) (cy%4294967296)) (by omega) (by omega) (by simpa using q9) (q10.set _ (by omega))
   (fun p hp1 hp2=>by rw[Zz (by omega)];exact q12 p (by omega) hp2) (by
    have e1:=V4 (w:=cy%4294967296) hz
    rw[Zd q11]at e1⊢
    rw[WC hx,ZJ,<-h4]
    omega)
  refine⟨T',r',?_,g2⟩
  have f2:Xd .i64 (.ofNat (i+1))=.ofNat (i+1):=wrap_i64 (by omega)
  have f3:Xd .i64 (.ofNat (i+b.length))=.ofNat (i+b.length):=wrap_i64 (by omega)
  have f4:i+b.length<a.length+b.length:=by omega
  rw[Xa]
  simp only[EVS,EVN,reduceIte,Nat.reduceEqDiff,Nat.reduceLeDiff,x148_2,sa.len,sb.len,hlt,f2,f3,f4,q1,q2,q3,q4,q5,q6,XB hz,X5]
  exact g1
theorem times_ret {B:Base}(hB:Std B){la lb:PL}{a b:List Nat}(sa:SlW la a)(sb:SlW lb b)(da:Dig a)(db:Dig b)(hl:a.length+b.length<1000000000000):
  Ret B 148 [.one la,.one lb] (.one (.lst (wsP (Xc (val a*val b))))):=by
 have hva:=Wf da
 have hvb:=Wf db
 have h1:=UF hB (ws:=dg (a.length+b.length) (val a*val b)) (by rw[XH];omega)
 rw[Ul (by rw[Nat.pow_add];exact Nat.mul_lt_mul'' hva hvb)]at h1
 refine Ret.of (hB.tab _ _ rfl) (((Evt.ge (a.length+b.length+1)).and (h1.evt.and hB.evt)).mono fun E K ⟨hK,e1,hm⟩=> ?_)
 obtain⟨T',r',g1,g2,g3,g4,g5⟩:=times_out (E:=E) (K:=K) sa sb da db hl (by omega) 161 a.length 0 K (List.replicate (a.length+b.length) 0) (by omega) (by omega) (by simp) (Dig.replicate _)
  (fun j _ hj=>by rw[YF,if_pos (by omega)]) (by rw[W5];simp[val])
 obtain rfl:=V8 g4 g3 g5
 have f1:Xd .i64 (.ofNat (a.length+b.length))=.ofNat (a.length+b.length):=wrap_i64 (by omega)
 have f2:4*(a.length+b.length)<=lim:=by unfold lim;omega
 have f3:a.length+b.length<=9223372036854775807:=by omega
 simp only[EVS,EVN,reduceIte,Nat.reduceEqDiff,Nat.reduceLeDiff,x148,sa.len,sb.len,f1,f2,f3,Zg,VU,g1,g2,VY _ (YG (XH (a.length+b.length) (val a*val b))),Ws,XH,Vb,Vl,hm,MDS,e1]
theorem WU {B:Base}(hB:Std B){l:PL}{ws:List Nat}(neg:Bool)(s:SlW l ws)(d:Dig ws)(hl:ws.length<1000000000000):∃c,Ret B 122 [.one (.bool neg),.one l] (.agg c)/\IsI c (if neg then -(val ws:Int)else val ws):=by
 obtain⟨r,h1,h2⟩:=rtrim_ret hB s (by omega)
 rw[VG d rfl]at h2
 have hz:(if neg then -(val ws:Int)else val ws).natAbs=val ws:=by cases neg<;>simp
 refine⟨[.bool (decide ((if neg then -(val ws:Int)else val ws)<0)),r],Ret.of (hB.tab _ _ rfl) ((h1.evt.and hB.evt).mono fun E K ⟨e1,hm⟩=> ?_),r,rfl,by rw[hz];exact h2⟩
 cases neg with
 |false=>
  have :¬((val ws:Int)<0):=by omega
  simp only[EVS,EVN,reduceIte,Nat.reduceEqDiff,Nat.reduceLeDiff,x122,hm,MDS,e1,this]
 |true=>
  have h3:((-(val ws:Int))<0)=(0<(Xc (val ws)).length):=by
   have:=@Wn (val ws)
   simp only[eq_iff_iff];omega
  simp only[EVS,EVN,reduceIte,Nat.reduceEqDiff,Nat.reduceLeDiff,x122,hm,MDS,e1,h2.len,h3]
theorem TD {B:Base}(hB:Std B){m:Nat}(hm:m<18446744073709551616):Ret B 123 [.one (.int .u64 (.ofNat m))] (.one (.lst (wsP (Xc m)))):=by
 have h1:Ret B 149 [.one (.lst [[.int .u32 (.ofNat (m%4294967296))],[.int .u32 (.ofNat (m / 4294967296))]])] (.one (.lst (wsP (Xc m)))):=by
  have:=UF hB (ws:=[m%4294967296,m / 4294967296]) (by simp)
  rw[VG (n:=m) (Dig.mk (by omega) (Dig.mk (by omega) Dig.nil)) (by simp only[val];omega)]at this
  exact this
 refine Ret.of (hB.tab _ _ rfl) ((h1.evt.and hB.evt).mono fun E K ⟨e1,hm⟩=> ?_)
 have q1:V0 .u64 (.ofNat m) (.ofNat 4294967296)=some (.p (.int .u64 (.ofNat (m%4294967296)))):=rfl
 have q2:Ua .u64 (.ofNat m) (.ofNat 4294967296)=some (.p (.int .u64 (Xd .u64 (.ofNat (m / 4294967296))))):=rfl
 have f1:m%4294967296%4294967296=m%4294967296:=Nat.mod_mod _ _
 have f2:m / 4294967296%18446744073709551616%4294967296=m / 4294967296:=by omega
 simp only[EVS,EVN,reduceIte,Nat.reduceEqDiff,Nat.reduceLeDiff,Nat.reduceLT,Nat.reduceAdd,x123,q1,q2,f1,f2,hm,MDS,e1]
theorem words_len64 {m:Nat}(h:m<18446744073709551616):(Xc m).length<=2:=WD (by simpa using h)
theorem rof_nat {B:Base}(hB:Std B){m:Nat}(hm:m<9223372036854775808):∃c,Ret B 78 [.one (.int .i64 (.ofNat m))] (.agg c)/\IsI c m:=by
 have h1:=TD hB (m:=m) (by omega)
 have hlen:=words_len64 (m:=m) (by omega)
 obtain⟨c,h2,h3⟩:=WU hB false (l:=.lst (wsP (Xc m))) .lst (Xj m) (by omega)
 rw[Xg]at h3
 refine⟨c,Ret.of (hB.tab _ _ rfl) ((h1.evt.and (h2.evt.and hB.evt)).mono fun E K ⟨e1,e2,hm2⟩=> ?_),by simpa using h3⟩
 obtain⟨l,rfl,-⟩:=h3
 have f1:m%18446744073709551616=m:=Zd (by omega)
 simp only[EVS,EVN,reduceIte,Nat.reduceEqDiff,Nat.reduceLeDiff,Nat.reduceAdd,x78,f1,Nat.not_lt_zero,hm2,MDS,e1,e2]
theorem rof_neg {B:Base}(hB:Std B){m:Nat}(hm:m<9223372036854775808):∃c,Ret B 78 [.one (.int .i64 (.negSucc m))] (.agg c)/\IsI c (.negSucc m):=by
 have h1:=TD hB (m:=m+1) (by omega)
 have hlen:=words_len64 (m:=m+1) (by omega)
 obtain⟨c,h2,h3⟩:=WU hB true (l:=.lst (wsP (Xc (m+1)))) .lst (Xj _) (by omega)
 rw[Xg]at h3
 refine⟨c,Ret.of (hB.tab _ _ rfl) ((h1.evt.and (h2.evt.and hB.evt)).mono fun E K ⟨e1,e2,hm2⟩=> ?_),by simpa[Int.negSucc_eq]using h3⟩
 obtain⟨l,rfl,-⟩:=h3
 have f1:m%18446744073709551616=m:=Zd (by omega)
 have f2:(m+1)%18446744073709551616=m+1:=Zd (by omega)
 have f3:Xd .i64 (0-Xd .i64 (Int.negSucc m+Int.ofNat 1))=.ofNat m:=by
  cases m with
  |zero=>rfl
  |succ m=>
   have e:(Int.negSucc (m+1)+Int.ofNat 1)=Int.negSucc m:=by simp only[Int.negSucc_eq,ZH];omega
   rw[e]
   have e2:Xd .i64 (Int.negSucc m)=Int.negSucc m:=by
    have h0:m%18446744073709551616=m:=Zd (by omega)
    have h4:Nat.ble 9223372036854775808 (18446744073709551615-m)=true:=T5 (by omega)
    show VA .i64 (18446744073709551615-m%18446744073709551616)=_
    rw[h0]
    show(bif true&&Nat.ble 9223372036854775808 (18446744073709551615-m)then _ else _)=_
    rw[h4]
    show Int.negSucc (18446744073709551616-(18446744073709551615-m)-1)=_
    congr 1;omega
   rw[e2,show(0-Int.negSucc m:Int)=Int.ofNat (m+1)by simp only[Int.negSucc_eq,ZH];omega]
   exact wrap_i64 hm
 simp only[EVS,EVN,reduceIte,Nat.reduceEqDiff,Nat.reduceLeDiff,Nat.reduceAdd,x78,f3,f1,f2,hm2,MDS,e1,e2]
theorem rsign_ret {B:Base}(hB:Std B){c:List PL}{z:Int}(hc:IsI c z):Ret B 114 [.agg c] (.one (.int .i64 (sgn z))):=by
 obtain⟨m,rfl,hm⟩:=hc
 refine Ret.of (hB.tab _ _ rfl) (Evt.of fun K n=> ?_)
 unfold sgn
 by_cases h1:z<0
 ·have h0:z≠0:=by omega
  simp only[EVS,EVN,reduceIte,Nat.reduceEqDiff,Nat.reduceLeDiff,Nat.reduceAdd,x114,h0,h1]
 ·have hmin:∀n:Nat,Uc (fun a b=>ltF b a) [.one (.p (.int .i64 (.ofNat n))),.one (.p (.int .i64 (.ofNat 1)))]=some ⟨.one (.p (.int .i64 (.ofNat (if n=0 then 0 else 1)))),[],[],[]⟩:=by
   intro n
   simp only[Uc,maxD,keq,kidx,YH,cond_true,ltF_nn,Res.pure]
   by_cases h:1<n
   ·simp only[h,decide_true,cond_true];rw[if_neg (by omega)]
   ·simp only[h,decide_false,cond_false]
    rcases Z0 n with e|e
    ·rw[if_pos e,e]
    ·rw[if_neg (by omega),show n=1 by omega]
  have h2:((Xc z.natAbs).length=0)=(z=0):=by rw[eq_iff_iff,Wn];omega
  by_cases h0:z=0
  ·rw[if_pos h0]
   have h3:(Xc z.natAbs).length=0:=by rw[h2];exact h0
   simp only[EVS,EVN,reduceIte,Nat.reduceEqDiff,Nat.reduceLeDiff,Nat.reduceAdd,x114,hm.len,hmin,h3,h1]
  ·simp only[EVS,EVN,reduceIte,Nat.reduceEqDiff,Nat.reduceLeDiff,Nat.reduceAdd,x114,hm.len,hmin,h2,h0,h1]
theorem rneg_ret {B:Base}(hB:Std B){c:List PL}{z:Int}(hc:IsI c z)(hz:Sm z):∃c',Ret B 144 [.agg c] (.agg c')/\IsI c' (-z):=by
 obtain⟨m,rfl,hm⟩:=hc
 unfold Sm at hz
 obtain⟨c',h3,h4⟩:=WU hB (!decide (z<0)) hm (Xj _) (by omega)
 rw[Xg]at h4
 refine⟨c',Ret.of (hB.tab _ _ rfl) ((h3.evt.and hB.evt).mono fun E K ⟨e2,hm2⟩=> ?_),?_⟩
 ·obtain⟨l,rfl,-⟩:=h4
  simp(decide:=true)only[EVS,EVN,reduceIte,Nat.reduceAdd,x144,hm2,MDS,e2]
 ·have : -z=(if(!decide (z<0))=true then -(z.natAbs:Int)else z.natAbs):=by
   by_cases h:z<0
   ·simp[h];omega
   ·simp[h];omega
  rw[this];exact h4
theorem Ta (m n:Nat):ltF (cmpI m n) (.ofNat 0)=decide (m<n):=by
 unfold cmpI
 by_cases h:m<n
 ·rw[if_pos h,decide_eq_true h];rfl
 ·rw[if_neg h,decide_eq_false h]
  split<;>rfl
theorem rmul_ret {B:Base}(hB:Std B){c d:List PL}{x y:Int}(hc:IsI c x)(hd:IsI d y)(hx:Sm x)(hy:Sm y):∃e,Ret B 119 [.agg c,.agg d] (.agg e)/\IsI e (x*y):=by
 obtain⟨m,rfl,hm⟩:=hc
 obtain⟨n,rfl,hn⟩:=hd
 unfold Sm at hx hy
 have h1:=times_ret hB hm hn (Xj _) (Xj _) (by omega)
 rw[Xg,Xg]at h1
 have hlen:(Xc (x.natAbs*y.natAbs)).length<1000000000000:=by
  have:=Vt x.natAbs y.natAbs
  omega
 obtain⟨e,h2,h3⟩:=WU hB (decide (x<0)!=decide (y<0)) (l:=.lst (wsP (Xc (x.natAbs*y.natAbs)))) .lst (Xj _) hlen
 rw[Xg]at h3
 refine⟨e,Ret.of (hB.tab _ _ rfl) ((h1.evt.and (h2.evt.and hB.evt)).mono fun E K ⟨e1,e2,hm2⟩=> ?_),?_⟩
 ·obtain⟨l,rfl,-⟩:=h3
  have hq:((decide (x<0)==decide (y<0))!=true)=(decide (x<0)!=decide (y<0)):=by
   cases decide (x<0)<;>cases decide (y<0)<;>rfl
  simp(decide:=true)only[EVS,EVN,reduceIte,Nat.reduceAdd,x119,hm2,MDS,e1,e2,hq]
 ·have :x*y=(if(decide (x<0)!=decide (y<0))=true then -((x.natAbs*y.natAbs:Nat):Int)else((x.natAbs*y.natAbs:Nat):Int)):=by
   rw[Int.natCast_mul]
   by_cases h:x<0<;>by_cases k:y<0
   ·simp only[h,k,decide_true,bne_self_eq_false,Zs,if_false]
    rw[show(x.natAbs:Int)= -x by omega,show(y.natAbs:Int)= -y by omega];grind
   ·simp only[h,k,decide_true,decide_false,bne_iff_ne,ne_eq,Bool.true_eq_false,not_false_eq_true,if_true]
    rw[show(x.natAbs:Int)= -x by omega,show(y.natAbs:Int)=y by omega];grind
   ·simp only[h,k,decide_true,decide_false,bne_iff_ne,ne_eq,Zs,not_false_eq_true,if_true]
    rw[show(x.natAbs:Int)=x by omega,show(y.natAbs:Int)= -y by omega];grind
   ·simp only[h,k,decide_false,bne_self_eq_false,Zs,if_false]
    rw[show(x.natAbs:Int)=x by omega,show(y.natAbs:Int)=y by omega]
  rw[this];exact h3
theorem radd_ret {B:Base}(hB:Std B){c d:List PL}{x y:Int}(hc:IsI c x)(hd:IsI d y)(hx:Sm x)(hy:Sm y):∃e,Ret B 118 [.agg c,.agg d] (.agg e)/\IsI e (x+y):=by
 obtain⟨m,rfl,hm⟩:=hc
 obtain⟨n,rfl,hn⟩:=hd
 unfold Sm at hx hy
 by_cases hs:decide (x<0)=decide (y<0)
 ·have h1:=added_ret hB hm hn (Xj _) (Xj _) (by omega) (by omega)
  rw[Xg,Xg]at h1
  have hlen:(Xc (x.natAbs+y.natAbs)).length<1000000000000:=by
   have:=Vu x.natAbs y.natAbs
   omega
  obtain⟨e,h2,h3⟩:=WU hB (decide (x<0)) (l:=.lst (wsP (Xc (x.natAbs+y.natAbs)))) .lst (Xj _) hlen
  rw[Xg]at h3
  refine⟨e,Ret.of (hB.tab _ _ rfl) ((h1.evt.and (h2.evt.and hB.evt)).mono fun E K ⟨e1,e2,hm2⟩=> ?_),?_⟩
  ·obtain⟨l,rfl,-⟩:=h3
   rw[<-hs]
   have hq:(decide (x<0)==decide (x<0))=true:=beq_self_eq_true _
   simp(decide:=true)only[EVS,EVN,reduceIte,Nat.reduceAdd,x118,hm2,MDS,e1,e2,hq]
  ·have :x+y=(if decide (x<0)=true then -((x.natAbs+y.natAbs:Nat):Int)else((x.natAbs+y.natAbs:Nat):Int)):=by
    by_cases h:x<0
    ·have k:y<0:=by simpa[h]using hs
     simp only[h,decide_true,if_true];omega
    ·have k:¬y<0:=by simpa[h]using hs
     simp only[h,decide_false,Zs,if_false];omega
   rw[this];exact h3
 ·have hq:(decide (x<0)==decide (y<0))=false:=by simpa using hs
  have h0:=compared_ret hB hm hn (Xj _) (Xj _) (Wh _) (Wh _) (by omega) (by omega)
  rw[Xg,Xg]at h0
  have hxy:(x<0/\¬y<0)\/(¬x<0/\y<0):=by
   by_cases h:x<0<;>by_cases k:y<0<;>simp[h,k]at hs⊢
  by_cases hle:y.natAbs<=x.natAbs
  ·have hlt:¬x.natAbs<y.natAbs:=by omega
   have h1:=taken_ret hB hm hn (Xj _) (Xj _) (Xs hle) (by omega) (by rw[Xg,Xg];exact hle)
   rw[Xg,Xg]at h1
   have hlen:(Xc (x.natAbs-y.natAbs)).length<1000000000000:=by
    have:=Xs (Nat.sub_le x.natAbs y.natAbs)
    omega
   obtain⟨e,h2,h3⟩:=WU hB (decide (x<0)) (l:=.lst (wsP (Xc (x.natAbs-y.natAbs)))) .lst (Xj _) hlen
   rw[Xg]at h3
   refine⟨e,Ret.of (hB.tab _ _ rfl) ((h0.evt.and (h1.evt.and (h2.evt.and hB.evt))).mono fun E K ⟨e0,e1,e2,hm2⟩=> ?_),?_⟩
   ·obtain⟨l,rfl,-⟩:=h3
    simp(decide:=true)only[EVS,EVN,reduceIte,Nat.reduceAdd,x118,hm2,MDS,e0,e1,e2,hq,Ta,hlt]
   ·have :x+y=(if decide (x<0)=true then -((x.natAbs-y.natAbs:Nat):Int)else((x.natAbs-y.natAbs:Nat):Int)):=by
     rcases hxy with⟨h,k⟩|⟨h,k⟩
     ·simp only[h,decide_true,if_true];omega
     ·simp only[h,decide_false,Zs,if_false];omega
    rw[this];exact h3
  ·have hlt:x.natAbs<y.natAbs:=by omega
   have h1:=taken_ret hB hn hm (Xj _) (Xj _) (Xs (by omega)) (by omega) (by rw[Xg,Xg];omega)
   rw[Xg,Xg]at h1
   have hlen:(Xc (y.natAbs-x.natAbs)).length<1000000000000:=by
    have:=Xs (Nat.sub_le y.natAbs x.natAbs)
    omega
   obtain⟨e,h2,h3⟩:=WU hB (decide (y<0)) (l:=.lst (wsP (Xc (y.natAbs-x.natAbs)))) .lst (Xj _) hlen
   rw[Xg]at h3
   refine⟨e,Ret.of (hB.tab _ _ rfl) ((h0.evt.and (h1.evt.and (h2.evt.and hB.evt))).mono fun E K ⟨e0,e1,e2,hm2⟩=> ?_),?_⟩
   ·obtain⟨l,rfl,-⟩:=h3
    simp(decide:=true)only[EVS,EVN,reduceIte,Nat.reduceAdd,x118,hm2,MDS,e0,e1,e2,hq,Ta,hlt]
   ·have :x+y=(if decide (y<0)=true then -((y.natAbs-x.natAbs:Nat):Int)else((y.natAbs-x.natAbs:Nat):Int)):=by
     rcases hxy with⟨h,k⟩|⟨h,k⟩
     ·simp only[k,decide_false,Zs,if_false];omega
     ·simp only[k,decide_true,if_true];omega
    rw[this];exact h3
theorem rnumber_ret {B:Base}(hB:Std B){l:PL}{ws:List Nat}(s:SlW l ws)(d:Dig ws)(hl:ws.length<=2):Ret B 171 [.one l] (.one (.int .u64 (.ofNat (val ws)))):=by
 have h0:=Tw hB s d 0
 have h1:=Tw hB s d 1
 have b0:=Uu d 0
 have b1:=Uu d 1
 have hv:val ws=ws[1]?.getD 0*4294967296+ws[0]?.getD 0:=by
  match ws,hl with
  |[],_=>rfl
  |[w],_=>simp[val]
  |[w,v],_=>simp[val];omega
 refine Ret.of (hB.tab _ _ rfl) ((h0.evt.and (h1.evt.and hB.evt)).mono fun E K ⟨e0,e1,hm⟩=> ?_)
 rw[hv]
 generalize ws[1]?.getD 0=x at *
 generalize ws[0]?.getD 0=y at *
 have f1:x*4294967296%18446744073709551616=x*4294967296:=Zd (by omega)
 have f2:(x*4294967296+y)%18446744073709551616=x*4294967296+y:=Zd (by omega)
 simp only[EVS,EVN,reduceIte,Nat.reduceEqDiff,Nat.reduceLeDiff,x171,hm,MDS,e0,e1,f1,f2]
theorem reuclid_loop {E:Oracle}{K:Nat}:∀(b a k:Nat) (H:List Blk),b<k->a<18446744073709551616->b<18446744073709551616->
  ∃T',Xa E K 0 [0,1] x170_1 k ⟨[(0,.one (.p (.int .u64 (.ofNat a)))),(1,.one (.p (.int .u64 (.ofNat b))))],H⟩=some (.exit 0,⟨T',H⟩)/\Xf T' 0=some (.one (.p (.int .u64 (.ofNat (Nat.gcd a b))))):=by
 intro b
 induction b using Nat.strongRecOn with
 |ind b ih=>
  intro a k H hk ha hb
  obtain⟨k,rfl⟩:∃k',k=k'+1:=⟨k-1,by omega⟩
  cases b with
  |zero=>
   apply ex1
   ·rw[Xa]
    simp only[EVS,EVN,reduceIte,Nat.reduceEqDiff,x170_1,ZA]
    rfl
   ·simp only[EVS,reduceIte,Nat.reduceEqDiff,Nat.gcd_zero_right]
  |succ b=>
   have hlt:a%(b+1)<b+1:=ZN _ (by omega)
   obtain⟨T',g1,g2⟩:=ih (a%(b+1)) hlt (b+1) k H (by omega) (by omega) (by omega)
   have e:Nat.gcd a (b+1)=Nat.gcd (b+1) (a%(b+1)):=by
    rw[Nat.gcd_comm,Nat.gcd_rec];exact Nat.gcd_comm _ _
   refine⟨T',?_,by rw[g2,e]⟩
   rw[Xa]
   simp only[EVS,EVN,reduceIte,Nat.reduceEqDiff,x170_1,YA]
   exact g1
theorem reuclid_ret {B:Base}(hB:Std B){a b:Nat}(ha:a<18446744073709551616)(hb:b<18446744073709551616):Ret B 170 [.one (.int .u64 (.ofNat a)),.one (.int .u64 (.ofNat b))] (.one (.int .u64 (.ofNat (Nat.gcd a b)))):=by
 refine Ret.of (hB.tab _ _ rfl) ((Evt.ge (b+1)).mono fun E K hK=> ?_)
 obtain⟨T',g1,g2⟩:=reuclid_loop (E:=E) (K:=K) b a K [] (by omega) ha hb
 simp only[EVS,EVN,reduceIte,Nat.reduceEqDiff,Nat.reduceLeDiff,x170,g1,g2]
theorem drop_set {ws:List Nat}{n w:Nat}(h:n<ws.length):(ws.set n w).drop n=w::ws.drop (n+1):=by
 rw[Z1 (by simpa using h),List.getElem_set_self,List.drop_set_of_lt (by omega)]
theorem rshort_loop {E:Oracle}{K:Nat}{la:PL}{a:List Nat}(sa:SlW la a)(da:Dig a)(hl:a.length<1000000000000)(t:Nat){d:Nat}(hd:0<d)(hd2:d<4294967296):
  ∀(n k:Nat) (q:List Nat) (r:Nat),n<k->n<=a.length->q.length=a.length->Dig q->r<d->val (a.drop n)=d*val (q.drop n)+r->
  ∃T' q' r',Xa E K 0 [0,1,6,7,8] x197_1 k ⟨[(0,.one (.p la)),(1,.one (.p (.int .u64 (.ofNat d)))),(6,.one (.own 0 0 0 a.length)),(7,.one (.p (.int .u64 (.ofNat r)))),(8,.one (.p (.int .i64 (pI n))))],[⟨false,0,1,wsD q,false,t⟩]⟩=some (.exit 0,⟨T',[⟨false,0,1,wsD q',false,t⟩]⟩)/\
   (Xf T' 6=some (.one (.own 0 0 0 a.length))/\Xf T' 7=some (.one (.p (.int .u64 (.ofNat r')))))/\q'.length=a.length/\Dig q'/\r'<d/\val a=d*val q'+r'
 |_,0,_,_,h,_,_,_,_,_=>by omega
 |0,k+1,q,r,_,_,h1,h2,h3,h4=>by
  have :∃T',Xa E K 0 [0,1,6,7,8] x197_1 (k+1) ⟨[(0,.one (.p la)),(1,.one (.p (.int .u64 (.ofNat d)))),(6,.one (.own 0 0 0 a.length)),(7,.one (.p (.int .u64 (.ofNat r)))),(8,.one (.p (.int .i64 (pI 0))))],[⟨false,0,1,wsD q,false,t⟩]⟩=some (.exit 0,⟨T',[⟨false,0,1,wsD q,false,t⟩]⟩)/\
    (Xf T' 6=some (.one (.own 0 0 0 a.length))/\Xf T' 7=some (.one (.p (.int .u64 (.ofNat r))))):=by
   apply ex1
   ·rw[Xa]
    simp only[EVS,EVN,reduceIte,Nat.reduceEqDiff,x197_1,pI]
    rfl
   ·simp only[EVS,reduceIte,Nat.reduceEqDiff,and_self]
  obtain⟨T',g1,g2⟩:=this
  exact⟨T',q,r,g1,g2,h1,h2,h3,by simpa using h4⟩
 |n+1,k+1,q,r,hk,hn,h1,h2,h3,h4=>by
  obtain⟨w,hw⟩:∃w,a[n]? =some w:=⟨_,Zf (by omega)⟩
  obtain⟨u,hu⟩:∃u,q[n]? =some u:=⟨_,Zf (by omega)⟩
  have hw2:=da.get hw
  obtain⟨s,hs⟩:∃s,s=r*4294967296+w:=⟨_,rfl⟩
  have hsd:s / d<4294967296:=Yb (by
   have:=Zn 4294967296 (show r+1<=d from h3)
   rw[ZJ]at this
   omega)
  have f1:w%18446744073709551616=w:=Zd (by omega)
  have f2:r*4294967296%18446744073709551616=r*4294967296:=Zd (by omega)
  have f3:(r*4294967296+w)%18446744073709551616=s:=by rw[<-hs];exact Zd (by omega)
  have f4:Xd .u32 (Xd .u64 (.ofNat (s / d)))=.ofNat (s / d):=by
   rw[wrap_u64,Zd (show s / d<18446744073709551616 by omega),wrap_u32,Zd hsd]
  have q1:V0 .u64 (.ofNat s) (.ofNat d)=some (.p (.int .u64 (.ofNat (s%d)))):=by
   obtain⟨d',rfl⟩:∃d',d=d'+1:=⟨d-1,by omega⟩;rfl
  have q2:Ua .u64 (.ofNat s) (.ofNat d)=some (.p (.int .u64 (Xd .u64 (.ofNat (s / d))))):=by
   obtain⟨d',rfl⟩:∃d',d=d'+1:=⟨d-1,by omega⟩;rfl
  have hp:=WV (n:=n) (by omega)
  have hna:n<a.length:=by omega
  obtain⟨T',q',r',g1,g2⟩:=rshort_loop sa da hl t hd hd2 n k (q.set n (s / d)) (s%d) (by omega) (by omega) (by simpa using h1) (h2.set n hsd) (ZN _ hd) (by
   rw[drop_set (by omega),val_drop hw,h4]
   simp only[val]
   have:=Ym s d
   generalize s / d=x at *
   generalize s%d=y at *
   grind)
  refine⟨T',q',r',?_,g2⟩
  rw[Xa]
  simp only[EVS,EVN,reduceIte,Nat.reduceEqDiff,Nat.reduceLeDiff,x197_1,pI,Zr,sa.idx hw,f1,f2,f3,q1,q2,hna,XB hu,hp]
  simp only[<-wrap_u64,<-wrap_u32,f4,X5]
  exact g1
theorem rshort_ret {B:Base}(hB:Std B){la:PL}{a:List Nat}(sa:SlW la a)(da:Dig a)(hl:a.length<1000000000000){d:Nat}(hd:0<d)(hd2:d<4294967296):
  Ret B 197 [.one la,.one (.int .u64 (.ofNat d))] (.tup [.one (.lst (wsP (Xc (val a / d)))),.one (.int .u64 (.ofNat (val a%d)))]):=by
 have hva:=Wf da
 have hq:val a / d<4294967296^a.length:=Z5 (Nat.div_le_self _ _) hva
 have h1:=UF hB (ws:=dg a.length (val a / d)) (by rw[XH];omega)
 rw[Ul hq]at h1
 refine Ret.of (hB.tab _ _ rfl) (((Evt.ge (a.length+1)).and (h1.evt.and hB.evt)).mono fun E K ⟨hK,e1,hm⟩=> ?_)
 obtain⟨T',q',r',g1,⟨g2,g2'⟩,g3,g4,g5,g6⟩:=rshort_loop (E:=E) (K:=K) sa da hl 161 hd hd2 a.length K (List.replicate a.length 0) 0 (by omega) (Zg _) (by simp) (Dig.replicate _) hd (by simp[val])
 have hqv:val q'=val a / d:=by
  rw[g6,Nat.mul_add_div hd,YD g5];omega
 have hrv:r'=val a%d:=by
  rw[g6,Nat.mul_add_mod,Zd g5]
 obtain rfl:=V8 g4 g3 hqv
 subst hrv
 have f1:=WV (n:=a.length) (by omega)
 have f2:4*a.length<=lim:=by unfold lim;omega
 have f3:a.length<=9223372036854775807:=by omega
 simp only[EVS,EVN,reduceIte,Nat.reduceEqDiff,Nat.reduceLeDiff,x197,sa.len,f1,f2,f3,Zg,VU,g1,g2,g2',VY _ (YG (XH a.length (val a / d))),Ws,XH,Vb,Vl,hm,MDS,e1]
def S31 (x:Int):Prop:=x.natAbs<4294967296
theorem rWhole_ret {B:Base}(hB:Std B){x:Int}(hx:S31 x):∃c,Ret B 37 [.one (.int .i64 x)] (.agg c)/\IsZ c x:=by
 unfold S31 at hx
 obtain⟨c,h1,hc⟩:∃c,Ret B 78 [.one (.int .i64 x)] (.agg c)/\IsI c x:=by
  cases x with
  |ofNat m=>exact rof_nat hB (by simp at hx;omega)
  |negSucc m=>exact rof_neg hB (by simp at hx;omega)
 obtain⟨d,h2,hd⟩:=rof_nat hB (m:=1) (by decide)
 obtain⟨c1,c2,ec⟩:=hc.len
 obtain⟨d1,d2,ed⟩:=hd.len
 subst ec ed
 refine⟨_,Ret.of (hB.tab _ _ rfl) ((h1.evt.and (h2.evt.and hB.evt)).mono fun E K ⟨e1,e2,hm⟩=> ?_),⟨_,_,_,_,rfl,hc,hd⟩⟩
 simp(decide:=true)only[EVS,EVN,reduceIte,Nat.reduceAdd,x37,hm,MDS,e1,e2]
end Go.Proofs.YtefpgecinlekpaaGreat
