/- Reference: Rest, Spair. -/
import Derived.Test.YtefpgecinlekpaaGreatMade
set_option maxHeartbeats 16000000
set_option maxRecDepth 100000
namespace Go.Proofs.YtefpgecinlekpaaGreat
open Go.Ev Go.Num
theorem uR {B:Xr}(b:Std B){c L lo q r e:PL}(h:Xs B 12 [.one c,.one L,.one lo] (.agg [q,r,e])):Xs B 68 [.one c,.one L,.one lo] (.one r):=by
 refine Xs.of (b.X6 _ _ rfl) ((h.Xi.and b.Xi).mono fun E K ⟨e1,a⟩=> ?_);simp(decide:=true)only[Xp,Xq,WR,reduceIte,Nat.reduceAdd,x68,a,XW,e1]
def Df (s:Qm)(a:List Qm)(t:Qm)(b:List Qm):List Qm:=
 Vu (X3 (XR (1,Wb s.2 t.2) s).1 (XR (1,Wb s.2 t.2) s).2 a) (Ri (X3 (XR (1,Wb s.2 t.2) t).1 (XR (1,Wb s.2 t.2) t).2 b))
theorem cH {B:Xr}(i:Std B){r s lo:PL}{o:List (List Int)}(J:S6 lo o)(z:VE o)(j:o.length<1000000)(C:Xs B 49 [.one lo] (.one (.bool true))){a b:List Qm}(w:PQ r a)(x:PQ s b)(H:a.length<100000)(I:b.length<100000)(h0:a=[]\/b=[]):
  Xs B 25 [.one r,.one s,.one lo] (.XY [.one .XJ,.one (.int .i64 (.ofNat 10))]):=by
 have key:∀{l:PL} {f:List Qm},PQ l f->f.length<100000->∃t1 t2 t3 t4 m e,Xs B 29 [.one l,.one lo] (.XY [.agg (t1::t2::t3::t4::mo m),.one (.bool e)])/\m.length=8/\(f=[]->e=false):=fun{l f} A y=>by
  obtain⟨c,e,q,d⟩:=Uh i J z j A y;cases f with
  |nil=>
   simp only[Wl]at d;obtain⟨rfl,rfl⟩:=d;exact⟨.bool false,.XJ,.bool false,.XJ,To,false,q,rfl,fun _=>rfl⟩
  |cons t V=>
   simp only[Wl]at d;obtain⟨rfl,d⟩:=d;obtain⟨t1,t2,t3,t4,rfl⟩:=d.eight;exact⟨t1,t2,t3,t4,_,true,q,d.Pk.1,fun h=>by cases h⟩
 obtain⟨P,Q,R,S,m,k,F,u,L⟩:=key w H;obtain⟨t1,t2,t3,t4,n,e,G,v,M⟩:=key x I;have D:k=false\/e=false:=h0.imp L M;have T:(Xm m).take 8=Xm m:=Zb (by rw[Xa];omega);have U:(Xm n).take 8=Xm n:=Zb (by rw[Xa];omega);have N:(Xm m).drop 8=[]:=Zj (by rw[Xa];omega);have O:(Xm n).drop 8=[]:=Zj (by rw[Xa];omega);refine Xs.of (i.X6 _ _ rfl) ((C.Xi.and (F.Xi.and (G.Xi.and i.Xi))).mono fun E K ⟨p,e1,e2,g⟩=> ?_);rcases D with rfl|rfl
 ·cases e<;>simp(decide:=true)only[Xp,Xq,WR,reduceIte,Nat.reduceAdd,x25,g,XW,p,e1,e2,u,v,XS,Xa]
 ·cases k<;>simp(decide:=true)only[Xp,Xq,WR,reduceIte,Nat.reduceAdd,x25,g,XW,p,e1,e2,u,v,XS,Xa]
theorem eW {B:Xr}(g:Std B){P Q lo:PL}{o:List (List Int)}(S:S6 lo o)(O:VE o)(k:o.length<1000000)(hv:Xs B 49 [.one lo] (.one (.bool true))){a b:List Qm}(M:PQ P a)(N:PQ Q b)(l1:a.length<100000)(l2:b.length<100000){s t:Qm}(hs:Wl o a=some s)(ht:Wl o b=some t)
  (qs:Sq s.1) (qt:Sq t.1) (s0:s.1≠0) (t0:t.1≠0) (za:Sz a) (zb:Sz b) (oa:∀u∈a,XL (Xg (XR (1,Wb s.2 t.2) s).2 u.2)) (ob:∀u∈b,XL (Xg (XR (1,Wb s.2 t.2) t).2 u.2)) (q1:Sq (XR (1,Wb s.2 t.2) s).1) (q2:Sq (XR (1,Wb s.2 t.2) t).1) (n1:(XR (1,Wb s.2 t.2) s).1≠0) (n2:(XR (1,Wb s.2 t.2) t).1≠0)
  (z1:Sz (X3 (XR (1,Wb s.2 t.2) s).1 (XR (1,Wb s.2 t.2) s).2 a)) (z2:Sz (X3 (XR (1,Wb s.2 t.2) t).1 (XR (1,Wb s.2 t.2) t).2 b)):
  ∃r,Xs B 25 [.one P,.one Q,.one lo] (.XY [.one (.Xv r),.one (.int .i64 (.ofNat 0))])/\X2 r (Df s a t b):=by
 obtain⟨c,b1,k1,h⟩:=Uh g S O k M l1;obtain⟨d,b2,k3,i⟩:=Uh g S O k N l2;simp only[hs]at h;simp only[ht]at i;obtain⟨rfl,h⟩:=h;obtain⟨rfl,i⟩:=i;have l:=h.Pk;have mt:=i.Pk;have Z:=xP g l mt;have R:=oj l mt;obtain⟨w,w1,T⟩:=N9 g (x:=.ofNat 1) (by unfold mg;decide);obtain⟨q,v,y,A,rfl⟩:=T.len;have C:Vd (.bool q::v::.bool y::A::mo (Wb s.2 t.2)) ((1:Rat),Wb s.2 t.2):=⟨q,v,y,A,rfl,T,R⟩;have n:Sq (1:Rat):=Sq.int (z:=1) (by decide);have X:X9 s.2 (Wb s.2 t.2)=true:=QR _ _ (l.1.trans mt.1.symm);have Y:X9 t.2 (Wb s.2 t.2)=true:=QQ _ _ (l.1.trans mt.1.symm);obtain⟨e,v1,H⟩:=bE g C h n qs s0 X;obtain⟨f,v3,I⟩:=bE g C i n qt t0 Y;obtain⟨o1,y1,y2⟩:=PX g H q1 n1 M za oa (by omega);obtain⟨o2,y3,y4⟩:=PX g I q2 n2 N zb ob (by omega);obtain⟨r,u1,u2⟩:=bC g (lp:=.Xv o1) (lq:=.Xv o2) ⟨_,.Xv,y2⟩ ⟨_,.Xv,y4⟩ z1 z2 (by unfold X3;rw[Zy];omega) (by unfold X3;rw[Zy];omega);obtain⟨s1,s2,s3,s4,rfl⟩:=h.eight;obtain⟨t1,t2,t3,t4,rfl⟩:=i.eight;obtain⟨e1,e2,e3,e4,rfl⟩:=H.eight;obtain⟨f1,f2,f3,f4,rfl⟩:=I.eight;refine⟨r,Xs.of (g.X6 _ _ rfl) ((hv.Xi.and (k1.Xi.and (k3.Xi.and (w1.Xi.and (Z.Xi.and (v1.Xi.and (v3.Xi.and (y1.Xi.and (y3.Xi.and (u1.Xi.and g.Xi)))))))))).mono fun E K ⟨x0,x1,x2,x3,x4,x5,x6,x7,x8,x9,D⟩=> ?_),u2⟩;have F:=l.1;have G:=mt.1;have L8:=R.1;have J:=H.Pk.1;have L:=I.Pk.1;have p:∀m:List Nat,m.length=8->(Xm m).take 8=Xm m:=fun m C=>Zb (by rw[Xa];omega)
 have j:∀m:List Nat,m.length=8->(Xm m).drop 8=[]:=fun m C=>Zj (by rw[Xa];omega)
 have U:=p _ F;have V:=p _ G;have W:=p _ L8;have a4:=p _ J;have a5:=p _ L;have c1:=j _ F;have c2:=j _ G;have c3:=j _ L8;have c4:=j _ J;have c5:=j _ L;generalize XR (1,Wb s.2 t.2) s=ov1 at *;generalize XR (1,Wb s.2 t.2) t=ov2 at *;generalize Wb s.2 t.2=lc at *;simp(decide:=true)only[Xp,Xq,WR,reduceIte,Nat.reduceAdd,x25,D,XW,x0,x1,x2,x3,x4,x5,x6,x7,x8,x9,U,V,W,F,G,L8,XS,Xa,XK,XN]
abbrev CL (L lo:PL)(i j:Nat):List (Nat×DV):=[(0,.one (.p L)),(1,.one (.p lo)),(5,.one (.p (.int .i64 (.ofNat i)))),(6,.one (.p (.int .i64 (.ofNat j))))]
theorem Br {E:Xb}{K k i j:Nat}(d:E.mode=md){lo L p q s:PL}{ls:List PL}(f:Sl L (Xu ls))(n:ls[i]? =some p)(g:ls[j]? =some q)(t:ls.length<1000000)(m:E.pure 25 [.one p,.one q,.one lo]=some (.XY [.one s,.one (.int .i64 (.ofNat 10))]))(H:List Xz):
  Xc E K 0 [0,1,5,6] x21_1 (k+1) ⟨CL L lo i j,H⟩=Xc E K 0 [0,1,5,6] x21_1 k ⟨CL L lo i (j+1),H⟩:=by
 have c:j<ls.length:=(Zd.mp g).1;have o:=fun(b:HF) (e:IntKind)=>f.idx (h:=b) (k:=e) (sz:=1) (XI n) rfl
 have r:=fun(b:HF) (e:IntKind)=>f.idx (h:=b) (k:=e) (sz:=1) (XI g) rfl
 have a:=f.len;have l:Xe .i64 (.ofNat (j+1))=.ofNat (j+1):=wrap_i64 (by omega);rw[Xc];simp(decide:=true)only[Xp,Xq,VN,WR,reduceIte,Nat.reduceEqDiff,Nat.reduceAdd,x21_1,d,XW,a,XH,c,o,r,m,l]
theorem EW {E:Xb}{K k i j:Nat}(d:E.mode=md){lo L p q s r:PL}{ls:List PL}(g:Sl L (Xu ls))(t:ls[i]? =some p)(l:ls[j]? =some q)(x:ls.length<1000000)(n:E.pure 25 [.one p,.one q,.one lo]=some (.XY [.one s,.one (.int .i64 (.ofNat 0))]))(o:E.pure 68 [.one s,.one L,.one lo]=some (.one r))(u:Sl r [])(H:List Xz):
  Xc E K 0 [0,1,5,6] x21_1 (k+1) ⟨CL L lo i j,H⟩=Xc E K 0 [0,1,5,6] x21_1 k ⟨CL L lo i (j+1),H⟩:=by
 have c:j<ls.length:=(Zd.mp l).1;have v:=fun(b:HF) (f:IntKind)=>g.idx (h:=b) (k:=f) (sz:=1) (XI t) rfl
 have w:=fun(b:HF) (f:IntKind)=>g.idx (h:=b) (k:=f) (sz:=1) (XI l) rfl
 have a:=g.len;have e:=u.len;have m:Xe .i64 (.ofNat (j+1))=.ofNat (j+1):=wrap_i64 (by omega);rw[Xc];simp(decide:=true)only[Xp,Xq,VN,WR,reduceIte,Nat.reduceEqDiff,Nat.reduceAdd,x21_1,d,XW,a,XH,c,v,w,n,o,e,m]
theorem Dm {E:Xb}{K k i j:Nat}(d:E.mode=md){lo L p q s r:PL}{ls:List PL}{m:List (List PL)}(g:Sl L (Xu ls))(v:ls[i]? =some p)(n:ls[j]? =some q)(z:ls.length<1000000)(o:E.pure 25 [.one p,.one q,.one lo]=some (.XY [.one s,.one (.int .i64 (.ofNat 0))]))(t:E.pure 68 [.one s,.one L,.one lo]=some (.one r))(w:Sl r m)(u:0<m.length)(H:List Xz):
  ∃l,Xc E K 0 [0,1,5,6] x21_1 (k+1) ⟨CL L lo i j,H⟩=some (.ret,⟨l,H⟩)/\Xh l 4=some (.one (.p (.bool false))):=by
 have c:j<ls.length:=(Zd.mp n).1;have x:=fun(b:HF) (f:IntKind)=>g.idx (h:=b) (k:=f) (sz:=1) (XI v) rfl
 have y:=fun(b:HF) (f:IntKind)=>g.idx (h:=b) (k:=f) (sz:=1) (XI n) rfl
 have a:=g.len;have e:=w.len;apply VM
 ·rw[Xc];simp(decide:=true)only[Xp,Xq,VN,WR,reduceIte,Nat.reduceEqDiff,Nat.reduceAdd,x21_1,d,XW,a,XH,c,x,y,o,t,e,u];rfl
 ·simp only[Xp,reduceIte,Nat.reduceEqDiff]
inductive AL (E:Xb)(L lo p:PL):List PL->Bool->Prop
 |nil:AL E L lo p [] false
 |zero {q s:PL} {rest:List PL} {b:Bool} (h1:E.pure 25 [.one p,.one q,.one lo]=some (.XY [.one s,.one (.int .i64 (.ofNat 10))])) (h:AL E L lo p rest b):AL E L lo p (q::rest) b
 |ok {q s r:PL} {rest:List PL} {b:Bool} (h1:E.pure 25 [.one p,.one q,.one lo]=some (.XY [.one s,.one (.int .i64 (.ofNat 0))])) (h2:E.pure 68 [.one s,.one L,.one lo]=some (.one r)) (hr:Sl r []) (h:AL E L lo p rest b):AL E L lo p (q::rest) b
 |bad {q s r:PL} {rest:List PL} {es:List (List PL)} (h1:E.pure 25 [.one p,.one q,.one lo]=some (.XY [.one s,.one (.int .i64 (.ofNat 0))])) (h2:E.pure 68 [.one s,.one L,.one lo]=some (.one r)) (hr:Sl r es) (he:0<es.length):AL E L lo p (q::rest) true
inductive Ek (E:Xb)(L lo:PL):List PL->Bool->Prop
 |nil:Ek E L lo [] false
 |next {p:PL} {rest:List PL} {b:Bool} (h1:AL E L lo p rest false) (h:Ek E L lo rest b):Ek E L lo (p::rest) b
 |stop {p:PL} {rest:List PL} (h1:AL E L lo p rest true):Ek E L lo (p::rest) true
abbrev GJ (L lo:PL)(i:Nat)(b:Bool)(ex:Ex)(T':List (Nat×DV)):Prop:=(b=false/\ex=.exit 2/\Xh T' 0=some (.one (.p L))/\Xh T' 1=some (.one (.p lo))/\Xh T' 5=some (.one (.p (.int .i64 (.ofNat i)))))\/(b=true/\ex=.ret/\Xh T' 4=some (.one (.p (.bool false))))
theorem CK {E:Xb}{K:Nat}(c:E.mode=md){lo L p:PL}{ls:List PL}(q:Sl L (Xu ls)){i:Nat}(t:ls[i]? =some p)(s:ls.length<1000000){rest:List PL}{b:Bool}(h:AL E L lo p rest b):∀(j k:Nat) (H:List Xz),ls.drop j=rest->j+rest.length=ls.length->rest.length<k->
  ∃w n,Xc E K 0 [0,1,5,6] x21_1 k ⟨CL L lo i j,H⟩=some (w,⟨n,H⟩)/\GJ L lo i b w n:=by
 induction h with
 |nil=>
  intro j k H _ a l;obtain⟨k,rfl⟩:∃d,k=d+1:=⟨k-1,by omega⟩;simp only[Zu,Z3]at a;subst a;have m:=q.len;refine⟨.exit 2,?_⟩;apply VM
  ·rw[Xc];simp only[Xp,Xq,reduceIte,Nat.reduceEqDiff,x21_1,m,XH,Zv];rfl
  ·exact .inl ⟨rfl,rfl,by simp only[Xp,reduceIte,Nat.reduceEqDiff,and_self]⟩
 |zero f h v=>
  intro j k H g a l;obtain⟨k,rfl⟩:∃d,k=d+1:=⟨k-1,by omega⟩;simp only[Zi]at a l;obtain⟨e,o⟩:=Xf g;rw[Br c q t e s f H];exact v (j+1) k H o (by omega) (by omega)
 |ok f r u h v=>
  intro j k H g a l;obtain⟨k,rfl⟩:∃d,k=d+1:=⟨k-1,by omega⟩;simp only[Zi]at a l;obtain⟨e,o⟩:=Xf g;rw[EW c q t e s f r u H];exact v (j+1) k H o (by omega) (by omega)
 |bad f r u z=>
  intro j k H g a l;obtain⟨k,rfl⟩:∃d,k=d+1:=⟨k-1,by omega⟩;obtain⟨e,o⟩:=Xf g;obtain⟨n,x,y⟩:=Dm (K:=K) (k:=k) c q t e s f r u z H;exact⟨.ret,n,x,.inr ⟨rfl,rfl,y⟩⟩
abbrev Gp (L lo:PL)(i:Nat):List (Nat×DV):=[(0,.one (.p L)),(1,.one (.p lo)),(5,.one (.p (.int .i64 (.ofNat i))))]
theorem Dl {E:Xb}{K:Nat}(g:E.mode=md){lo L:PL}{ls:List PL}(l:Sl L (Xu ls))(x:ls.length<1000000)(D:ls.length<K){rest:List PL}{b:Bool}(h:Ek E L lo rest b):∀(i k:Nat) (H:List Xz),ls.drop i=rest->i+rest.length=ls.length->rest.length<k->
  ∃c m,Xc E K 0 [0,1,5] x21_2 k ⟨Gp L lo i,H⟩=some (c,⟨m,H⟩)/\((b=false/\c=.exit 0)\/(b=true/\c=.ret/\Xh m 4=some (.one (.p (.bool false))))):=by
 induction h with
 |nil=>
  intro i k H _ e o;obtain⟨k,rfl⟩:∃j,k=j+1:=⟨k-1,by omega⟩;simp only[Zu,Z3]at e;subst e;have a:=l.len;refine⟨.exit 0,?_⟩;apply VM
  ·rw[Xc];simp only[Xp,Xq,reduceIte,Nat.reduceEqDiff,x21_2,a,XH,Zv];rfl
  ·exact .inl ⟨rfl,rfl⟩
 |@next p rest b t h A=>
  intro i k H v e o;obtain⟨k,rfl⟩:∃j,k=j+1:=⟨k-1,by omega⟩;simp only[Zi]at e o;obtain⟨s,n⟩:=Xf v;have d:i<ls.length:=by omega
  have a:=l.len;have q:Xe .i64 (.ofNat (i+1))=.ofNat (i+1):=wrap_i64 (by omega);obtain⟨c,w,f,r⟩:=CK (K:=K) g l s x t (i+1) K H n (by omega) (by omega);rcases r with⟨-,rfl,B,t1,C⟩|⟨u,-,-⟩
  ·obtain⟨c,m,y,z⟩:=A (i+1) k H n (by omega) (by omega);refine⟨c,m,?_,z⟩;rw[<-y,Xc];simp only[CL]at f;simp(decide:=true)only[Xp,Xq,reduceIte,x21_2,a,XH,d,q,f,B,t1,C]
  ·cases u
 |@stop p rest t=>
  intro i k H v e o;obtain⟨k,rfl⟩:∃j,k=j+1:=⟨k-1,by omega⟩;simp only[Zi]at e o;obtain⟨s,n⟩:=Xf v;have d:i<ls.length:=by omega
  have a:=l.len;have q:Xe .i64 (.ofNat (i+1))=.ofNat (i+1):=wrap_i64 (by omega);obtain⟨c,w,f,r⟩:=CK (K:=K) g l s x t (i+1) K H n (by omega) (by omega);rcases r with⟨u,-⟩|⟨-,rfl,t4⟩
  ·cases u
  ·refine⟨.ret,w,?_,.inr ⟨rfl,rfl,t4⟩⟩;rw[Xc];simp only[CL]at f;simp(decide:=true)only[Xp,Xq,reduceIte,x21_2,a,XH,d,q,f]
theorem kI {B:Xr}(d:Std B){lo L:PL}{ls:List PL}(j:Sl L (Xu ls))(g:ls.length<1000000)(i:Xs B 49 [.one lo] (.one (.bool true))){b:Bool}(h:X0 B fun E _=>Ek E L lo ls b):Xs B 21 [.one L,.one lo] (.one (.bool (!b))):=by
 refine Xs.of (d.X6 _ _ rfl) ((h.and (i.Xi.and (d.Xi.and (X0.ge (ls.length+1))))).mono fun E K ⟨e,e1,a,m⟩=> ?_);obtain⟨l,k,c,f⟩:=Dl (K:=K) a j g (by omega) e 0 K [] rfl (by omega) (by omega);simp only[Gp]at c;rcases f with⟨rfl,rfl⟩|⟨rfl,rfl,t4⟩
 ·simp(decide:=true)only[Xp,Xq,WR,reduceIte,Nat.reduceAdd,x21,a,XW,e1,c]
 ·simp(decide:=true)only[Xp,Xq,WR,reduceIte,Nat.reduceAdd,x21,a,XW,e1,c,t4]
abbrev ib (n:Bool)(l:PL):Xz:=⟨false,0,2,[[.p (.bool n),.p l]],false,59⟩
theorem sy {E:Xb}{K:Nat}{n:Bool}{o q:PL}{b:List Nat}(c:V9 o b)(s:V9 q b)(u:b.length<1000000000000):∀(d i k:Nat),i+d=b.length->d<k->
  ∃e,Xc E K 0 [2,3,5] x128_1 k ⟨[(2,.one (.ptr 0 0 0 0)),(3,.one (.ptr 1 0 0 0)),(5,.one (.p (.int .i64 (.ofNat i))))],[ib n o,ib n q]⟩=some (.exit 0,⟨e,[ib n o,ib n q]⟩)
 |0,i,k,hi,hk=>by
  obtain⟨k,rfl⟩:∃l,k=l+1:=⟨k-1,by omega⟩;rw[Z3]at hi;subst hi;have a:=c.len;apply Exists.intro;rw[Xc];simp only[Xp,Xq,reduceIte,Nat.reduceEqDiff,Nat.reduceLeDiff,x128_1,ib,a,Zv];rfl
 |d+1,i,k,hi,hk=>by
  obtain⟨k,rfl⟩:∃l,k=l+1:=⟨k-1,by omega⟩;obtain⟨e,g⟩:=sy (E:=E) (K:=K) (n:=n) c s u d (i+1) k (by omega) (by omega);have r:b[i]? =some b[i]:=Zg (by omega);have a:=c.len;have j:i<b.length:=by omega
  have v:=fun(f:HF) (m:IntKind)=>c.idx (h:=f) (k:=m) r
  have w:=fun(f:HF) (m:IntKind)=>s.idx (h:=f) (k:=m) r
  have t:Xe .i64 (.ofNat (i+1))=.ofNat (i+1):=wrap_i64 (by omega);refine⟨e,?_⟩;rw[Xc];simp(decide:=true)only[Xp,Xq,reduceIte,Nat.reduceAdd,x128_1,ib,a,j,v,w,t];exact g
theorem ja {B:Xr}(f:Std B){c d:List PL}{z:Int}(i:UB c z)(j:UB d z)(p:(Xd z.natAbs).length<100000000000):Xs B 128 [.agg c,.agg d] (.one (.bool true)):=by
 obtain⟨q,rfl,a⟩:=i;obtain⟨r,rfl,e⟩:=j;refine Xs.of (f.X6 _ _ rfl) ((X0.ge ((Xd z.natAbs).length+1)).mono fun E K o=> ?_);obtain⟨m,g⟩:=sy (E:=E) (K:=K) (n:=decide (z<0)) a e (by omega) (Xd z.natAbs).length 0 K (by omega) (by omega);have k:=V9.len a;have l:=V9.len e;have h:∀b:Bool,(b==b)=true:=fun b=>beq_self_eq_true b
 simp only[ib]at g;generalize decide (z<0)=n at *;simp(decide:=true)only[Xp,Xq,reduceIte,Nat.reduceAdd,x128,k,l,g,h]
theorem uL {B:Xr}(a:Std B){c d:List PL}{x:Rat}(l:RX c x)(o:RX d x)(f:Sq x):Xs B 88 [.agg c,.agg d] (.one (.bool true)):=by
 obtain⟨n,m,r,e,rfl,h,i⟩:=l;obtain⟨u,t,g,s,rfl,j,k⟩:=o;have p:=ja a h j (by have:=f.1;omega);have q:=ja a i k (by have:=f.2;simp only[ZY];omega);refine Xs.of (a.X6 _ _ rfl) ((p.Xi.and (q.Xi.and a.Xi)).mono fun E K ⟨e1,e2,b⟩=> ?_);simp(decide:=true)only[Xp,Xq,WR,reduceIte,Nat.reduceAdd,x88,b,XW,e1,e2]
theorem uK {B:Xr}(f:Std B){c d:List PL}{t:Qm}(l:Vd c t)(m:Vd d t)(n:Sq t.1):Xs B 53 [.agg c,.agg d] (.one (.bool true)):=by
 obtain⟨a,b,c,e,rfl,i,g⟩:=l;obtain⟨r,s,u,v,rfl,j,-⟩:=m;have o:=uL f i j n;have k:=TG g.1 g.1;have p:=g.1;have q:(Xm t.2).take 8=Xm t.2:=Zb (by rw[Xa];omega);refine Xs.of (f.X6 _ _ rfl) ((o.Xi.and f.Xi).mono fun E K ⟨e1,h⟩=> ?_);simp(decide:=true)only[Xp,Xq,WR,reduceIte,Nat.reduceAdd,x53,h,XW,e1,k,q,p,XS,Xa]
inductive Au (E:Xb):List (List PL)->List (List PL)->Prop
 |nil:Au E [] []
 |cons {c d:List PL} {cs ds:List (List PL)} (hc:∃a b e f m,c=a::b::e::f::mo m/\m.length=8) (hd:∃a b e f m,d=a::b::e::f::mo m/\m.length=8) (h1:E.pure 53 [.agg c,.agg d]=some (.one (.bool true))) (h:Au E cs ds):Au E (c::cs) (d::ds)
theorem mX {B:Xr}(l:Std B):∀{j g:List (List PL)} {i:List Qm},X2 j i->X2 g i->Sz i->X0 B fun E _=>Au E j g
 |[],g,_,.nil,h,_=>by cases h;exact X0.of fun _ _=>.nil
 |c::j,g,t::i,.cons h1 h,k,hs=>by
  cases k with
  |@cons d _ g _ n k=>
   have e1:=uK l h1 n (hs t (Ze ..));obtain⟨a,b,e,f,rfl,-,m⟩:=h1;obtain⟨p,q,r,s,rfl,-,-⟩:=n;exact((mX l h k fun u o=>hs u (Zc _ o)).and e1.Xi).mono fun E K ⟨x,y⟩=>.cons ⟨_,_,_,_,_,rfl,m.1⟩ ⟨_,_,_,_,_,rfl,m.1⟩ y x
theorem A2 {E:Xb}{K:Nat}(t:E.mode=md){B C:PL}{a x:List (List PL)}(w:Sl B a)(Q:Sl C x)(hl:a.length<1000000):∀{e f:List (List PL)},Au E e f->∀(i k:Nat),a.drop i=e->x.drop i=f->i+e.length=a.length->e.length<k->
  ∃l,Xc E K 0 [0,1,5] x14_1 k ⟨[(0,.one (.p B)),(1,.one (.p C)),(5,.one (.p (.int .i64 (.ofNat i))))],[]⟩=some (.exit 0,⟨l,[]⟩):=by
 intro e f h;induction h with
 |nil=>
  intro i k _ _ j y;obtain⟨k,rfl⟩:∃u,k=u+1:=⟨k-1,by omega⟩;simp only[Zu,Z3]at j;subst j;have b:=w.len;apply Exists.intro;rw[Xc];simp only[Xp,Xq,reduceIte,Nat.reduceEqDiff,x14_1,b,Zv];rfl
 |@cons c d e f L M J h O=>
  intro i k o q j y;obtain⟨k,rfl⟩:∃u,k=u+1:=⟨k-1,by omega⟩;simp only[Zi]at j y;obtain⟨H,D⟩:=Xf o;obtain⟨I,F⟩:=Xf q;obtain⟨l,g⟩:=O (i+1) k D F (by omega) (by omega);obtain⟨T,U,c3,V,m,rfl,z⟩:=L;obtain⟨W,X,Y,Z,n,rfl,A⟩:=M;have b:=w.len;have s:i<a.length:=by omega
  have N:=fun(r:HF) (v:IntKind)=>w.idx (h:=r) (k:=v) (sz:=12) H (by simp[Xy,z])
  have P:=fun(r:HF) (v:IntKind)=>Q.idx (h:=r) (k:=v) (sz:=12) I (by simp[Xy,A])
  have G:Xe .i64 (.ofNat (i+1))=.ofNat (i+1):=wrap_i64 (by omega);have R:(Xm m).take 8=Xm m:=Zb (by rw[Xa];omega);have S:(Xm n).take 8=Xm n:=Zb (by rw[Xa];omega);refine⟨l,?_⟩;rw[Xc];simp(decide:=true)only[Xp,Xq,WR,reduceIte,Nat.reduceAdd,x14_1,t,XW,b,s,N,P,G,R,S,z,A,J,XS,Xa,XK,XN];exact g
theorem Ry {B:Xr}(a:Std B){h i:PL}{ts:List Qm}(o:PQ h ts)(p:PQ i ts)(q:Sz ts)(u:ts.length<1000000):Xs B 14 [.one h,.one i] (.one (.bool true)):=by
 obtain⟨n,l,j⟩:=o;obtain⟨s,m,k⟩:=p;have c:=j.length;have d:=k.length;refine Xs.of (a.X6 _ _ rfl) (((mX a j k q).and (a.Xi.and (X0.ge (ts.length+1)))).mono fun E K ⟨e1,b,t⟩=> ?_);obtain⟨r,g⟩:=A2 (K:=K) b l m (by omega) e1 0 K rfl rfl (by omega) (by omega);have e:=l.len;have f:=m.len;rw[c]at e;rw[d]at f;simp(decide:=true)only[Xp,Xq,reduceIte,Nat.reduceAdd,x14,e,f,g]
inductive Av (E:Xb):List PL->List PL->Prop
 |nil:Av E [] []
 |cons {p q:PL} {ps qs:List PL} (h1:E.pure 14 [.one p,.one q]=some (.one (.bool true))) (h:Av E ps qs):Av E (p::ps) (q::qs)
theorem mY {B:Xr}(e:Std B):∀{d qs:List PL} {c:List (List Qm)},T6 d c->T6 qs c->(∀f∈c,Sz f/\f.length<1000000)->X0 B fun E _=>Av E d qs
 |[],_,_,.nil,h,_=>by cases h;exact X0.of fun _ _=>.nil
 |p::d,_,f::c,.cons h1 h,k,hs=>by
  cases k with
  |cons i k=>
   obtain⟨a,b⟩:=hs f (Ze ..);exact((mY e h k fun u g=>hs u (Zc _ g)).and (Ry e h1 i a b).Xi).mono fun E K ⟨x,y⟩=>.cons y x
theorem A3 {E:Xb}{K:Nat}(n:E.mode=md){v w:PL}{a t:List PL}(s:Sl v (Xu a))(H:Sl w (Xu t))(I:a.length<1000000):∀{c qs:List PL},Av E c qs->∀(i k:Nat),a.drop i=c->t.drop i=qs->i+c.length=a.length->c.length<k->
  ∃e,Xc E K 0 [0,1,5] x13_1 k ⟨[(0,.one (.p v)),(1,.one (.p w)),(5,.one (.p (.int .i64 (.ofNat i))))],[]⟩=some (.exit 0,⟨e,[]⟩):=by
 intro c qs h;induction h with
 |nil=>
  intro i k _ _ d u;obtain⟨k,rfl⟩:∃o,k=o+1:=⟨k-1,by omega⟩;simp only[Zu,Z3]at d;subst d;have b:=s.len;apply Exists.intro;rw[Xc];simp only[Xp,Xq,reduceIte,Nat.reduceEqDiff,x13_1,b,XH,Zv];rfl
 |@cons p q c qs C h F=>
  intro i k f j d u;obtain⟨k,rfl⟩:∃o,k=o+1:=⟨k-1,by omega⟩;simp only[Zi]at d u;obtain⟨A,x⟩:=Xf f;obtain⟨B,y⟩:=Xf j;obtain⟨e,g⟩:=F (i+1) k x y (by omega) (by omega);have b:=s.len;have m:i<a.length:=by omega
  have D:=fun(l:HF) (r:IntKind)=>s.idx (h:=l) (k:=r) (sz:=1) (XI A) rfl
  have G:=fun(l:HF) (r:IntKind)=>H.idx (h:=l) (k:=r) (sz:=1) (XI B) rfl
  have z:Xe .i64 (.ofNat (i+1))=.ofNat (i+1):=wrap_i64 (by omega);refine⟨e,?_⟩;rw[Xc];simp(decide:=true)only[Xp,Xq,WR,reduceIte,Nat.reduceAdd,x13_1,n,XW,b,XH,m,D,G,z,C];exact g
theorem xB {B:Xr}(c:Std B){n o:PL}{a i:List PL}{b:List (List Qm)}(p:Sl n (Xu a))(q:Sl o (Xu i))(j:T6 a b)(k:T6 i b)(r:∀f∈b,Sz f/\f.length<1000000)(u:b.length<1000000):Xs B 13 [.one n,.one o] (.one (.bool true)):=by
 have e:=j.length;have h:=k.length;refine Xs.of (c.X6 _ _ rfl) (((mY c j k r).and (c.Xi.and (X0.ge (b.length+1)))).mono fun E K ⟨e1,d,t⟩=> ?_);obtain⟨s,g⟩:=A3 (K:=K) d p q (by omega) e1 0 K rfl rfl (by omega) (by omega);have l:=p.len;have m:=q.len;rw[XH,e]at l;rw[XH,h]at m;simp(decide:=true)only[Xp,Xq,reduceIte,Nat.reduceAdd,x13,l,m,g]
inductive lU:List Qm->List (List Qm)->List (List Qm)->List Qm->Prop
 |nil (acc:List Qm):lU acc [] [] acc
 |cons {acc q f r:List Qm} {qs fs:List (List Qm)} (ha:Sz q) (hb:Sz f) (hz:∀t∈q,t.1≠0/\∀u∈f,XL (Xg t.2 u.2)) (hms:gX f [] q) (l1:q.length<100000) (l2:f.length<1000) (l3:q.length*f.length<900000)
   (s1:Sz acc) (s2:Sz (U7 [] q f)) (n1:acc.length<1000000) (n2:(U7 [] q f).length<1000000) (h:lU (Vu acc (U7 [] q f)) qs fs r):lU acc (q::qs) (f::fs) r
theorem lU.length {a r:List Qm}{qs b:List (List Qm)}(h:lU a qs b r):qs.length=b.length:=by
 induction h with
 |nil=>rfl
 |cons _ _ _ _ _ _ _ _ _ _ _ _ c=>simp[c]
inductive As (E:Xb):PL->List PL->List PL->PL->Prop
 |nil (r:PL):As E r [] [] r
 |cons {r q l x rf:PL} {o:List (List PL)} {qs ls:List PL} (h1:E.pure 56 [.one q,.one l]=some (.XY [.one x,.one (.int .i64 (.ofNat 0))])) (h2:E.pure 28 [.one r,.one x]=some (.one (.Xv o))) (h:As E (.Xv o) qs ls rf):As E r (q::qs) (l::ls) rf
theorem xd {B:Xr}(k:Std B){a r:List Qm}{qs j:List (List Qm)}(h:lU a qs j r):∀{c b:List PL} {ra:PL},T6 c qs->T6 b j->PQ ra a->∃d,(X0 B fun E _=>As E ra c b d)/\PQ d r:=by
 induction h with
 |nil a=>
  intro c b ra e f g;cases e;cases f;exact⟨ra,X0.of fun _ _=>.nil ra,g⟩
 |cons p q s i C D F L M G H h t=>
  intro c b ra e f g;cases e with
  |cons I J=>
   cases f with
   |cons m n=>
    obtain⟨x,u,v⟩:=je k I m p q s i C D F;obtain⟨o,w,y⟩:=Sk k g v L M G H;obtain⟨d,z,A⟩:=t J n (ra:=.Xv o) ⟨_,.Xv,y⟩;exact⟨d,(z.and (u.Xi.and w.Xi)).mono fun E K ⟨l,e1,e2⟩=>.cons e1 e2 l,A⟩
abbrev EA (Q L:PL)(d:DL)(i:Nat):List (Nat×DV):=[(0,.one (.p Q)),(1,.one (.p L)),(6,.one d),(7,.one (.p (.int .i64 (.ofNat i))))]
theorem uy {E:Xb}{K k:Nat}(d:E.mode=md){Q L q l x:PL}{o:List (List PL)}{qs ls:List PL}(t:Sl Q (Xu qs))(g:Sl L (Xu ls))(n:qs[0]? =some q)(f:ls[0]? =some l)
  (j:E.pure 56 [.one q,.one l]=some (.XY [.one x,.one (.int .i64 (.ofNat 0))])) (m:E.pure 28 [.one (.Xv []),.one x]=some (.one (.Xv o))):
  Xc E K 0 [0,1,6,7] x17_1 (k+1) ⟨EA Q L (.own 0 0 0 0) 0,[⟨false,0,12,[],false,63⟩]⟩=Xc E K 0 [0,1,6,7] x17_1 k ⟨EA Q L (.p (.Xv o)) 1,[⟨true,0,12,[],false,63⟩]⟩:=by
 have c:0<ls.length:=(Zd.mp f).1;have r:=fun(b:HF) (e:IntKind)=>t.idx (h:=b) (k:=e) (sz:=1) (XI n) rfl
 have s:=fun(b:HF) (e:IntKind)=>g.idx (h:=b) (k:=e) (sz:=1) (XI f) rfl
 have a:=g.len;have i:Xe .i64 (.ofNat 1)=.ofNat 1:=rfl;rw[Xc];simp(decide:=true)only[Xp,Xq,WR,reduceIte,Nat.reduceAdd,x17_1,d,XW,a,XH,c,r,s,j,m,i]
theorem ux {E:Xb}{K k i:Nat}(d:E.mode=md){Q L q l x r:PL}{o:List (List PL)}{qs ls:List PL}(v:Sl Q (Xu qs))(g:Sl L (Xu ls))(s:qs[i]? =some q)(f:ls[i]? =some l)(w:ls.length<1000000)
  (m:E.pure 56 [.one q,.one l]=some (.XY [.one x,.one (.int .i64 (.ofNat 0))])) (n:E.pure 28 [.one r,.one x]=some (.one (.Xv o))) (H:List Xz):
  Xc E K 0 [0,1,6,7] x17_1 (k+1) ⟨EA Q L (.p r) i,H⟩=Xc E K 0 [0,1,6,7] x17_1 k ⟨EA Q L (.p (.Xv o)) (i+1),H⟩:=by
 have c:i<ls.length:=(Zd.mp f).1;have t:=fun(b:HF) (e:IntKind)=>v.idx (h:=b) (k:=e) (sz:=1) (XI s) rfl
 have u:=fun(b:HF) (e:IntKind)=>g.idx (h:=b) (k:=e) (sz:=1) (XI f) rfl
 have a:=g.len;have j:Xe .i64 (.ofNat (i+1))=.ofNat (i+1):=wrap_i64 (by omega);rw[Xc];simp(decide:=true)only[Xp,Xq,VN,WR,reduceIte,Nat.reduceEqDiff,Nat.reduceAdd,x17_1,d,XW,a,XH,c,t,u,m,n,j]
theorem C8 {E:Xb}{K:Nat}(d:E.mode=md){Q L:PL}{g b:List PL}(z:Sl Q (Xu g))(m:Sl L (Xu b))(w:b.length<1000000){r l:PL}{qs ls:List PL}(h:As E r qs ls l):∀(i k:Nat) (H:List Xz),g.drop i=qs->b.drop i=ls->i+ls.length=b.length->ls.length<k->
  ∃f,Xc E K 0 [0,1,6,7] x17_1 k ⟨EA Q L (.p r) i,H⟩=some (.exit 0,⟨f,H⟩)/\Xh f 6=some (.one (.p l)):=by
 induction h with
 |nil r=>
  intro i k H _ _ c j;obtain⟨k,rfl⟩:∃e,k=e+1:=⟨k-1,by omega⟩;simp only[Zu,Z3]at c;subst c;have a:=m.len;apply VM
  ·rw[Xc];simp only[Xp,Xq,reduceIte,Nat.reduceEqDiff,x17_1,a,XH,Zv];rfl
  ·simp only[Xp,reduceIte,Nat.reduceEqDiff]
 |cons t u h y=>
  intro i k H x v c j;obtain⟨k,rfl⟩:∃e,k=e+1:=⟨k-1,by omega⟩;simp only[Zi]at c j;obtain⟨q,n⟩:=Xf x;obtain⟨s,o⟩:=Xf v;rw[ux d z m q s w t u H];exact y (i+1) k H n o (by omega) (by omega)
theorem xF {B:Xr}(g:Std B){Q L:PL}{j q:List PL}{qs a:List (List Qm)}{r:List Qm}(m:Sl Q (Xu j))(l:Sl L (Xu q))(p:T6 j qs)(n:T6 q a)(D:a.length<100000)(h:lU [] qs a r):∃e,Xs B 17 [.one Q,.one L] (.XY [.one e,.one (.int .i64 (.ofNat 0))])/\PQ e r:=by
 have o:qs.length=a.length:=h.length;have e1:=p.length;have e2:=n.length;obtain⟨e,w,x⟩:=xd g h p n (ra:=.Xv []) ⟨[],.Xv,.nil⟩;refine⟨e,Xs.of (g.X6 _ _ rfl) ((w.and (g.Xi.and (X0.ge (a.length+2)))).mono fun E K ⟨z,b,C⟩=> ?_),x⟩;have c:=m.len;have d:=l.len;rw[XH,show j.length=a.length by omega]at c;rw[XH,e2]at d;cases z with
 |nil=>
  obtain⟨k,rfl⟩:∃k,K=k+1:=⟨K-1,by omega⟩;have y:a.length=0:=by rw[<-e2];rfl
  rw[y]at c d;simp(decide:=true)only[Xp,Xq,reduceIte,Nat.reduceAdd,x17,x17_1,Xc,c,d]
 |cons t u v=>
  obtain⟨k,rfl⟩:∃k,K=k+1:=⟨K-1,by omega⟩;have i:=e2;simp only[Zi]at i;obtain⟨A,f,s⟩:=C8 (K:=k+1) b m l (by simp only[Zi];omega) v 1 k [⟨true,0,12,[],false,63⟩] rfl rfl (by simp only[Zi];omega) (by omega);rw[<-uy b m l rfl rfl t u]at f;simp only[EA]at f;simp(decide:=true)only[Xp,Xq,reduceIte,Nat.reduceAdd,x17,c,d,f,s]
theorem Be {B:Xr}(b:Std B){p Q L c:PL}(d:Xs B 17 [.one Q,.one L] (.XY [.one c,.one (.int .i64 (.ofNat 0))]))(e:Xs B 14 [.one c,.one p] (.one (.bool true))):Xs B 62 [.one p,.one Q,.one L] (.one (.bool true)):=by
 refine Xs.of (b.X6 _ _ rfl) ((d.Xi.and (e.Xi.and b.Xi)).mono fun E K ⟨e1,e2,a⟩=> ?_);simp(decide:=true)only[Xp,Xq,WR,reduceIte,Nat.reduceAdd,x62,a,XW,e1,e2]
structure C4 (E:Xb)(p lo t1 t2 t3 t4:PL)(m:List Nat)(b:Bool):Prop where
 h:E.pure 29 [.one p,.one lo]=some (.XY [.agg (t1::t2::t3::t4::mo m),.one (.bool b)])
 m8:m.length=8
abbrev Sg (t1 t2 t3 t4:PL)(m:List Nat):Xz:=⟨false,0,12,[.p t1::.p t2::.p t3::.p t4::Xm m],false,63⟩
abbrev CJ (Q L lo:PL)(is:Bool)(i:Nat):List (Nat×DV):=[(1,.one (.p Q)),(2,.one (.p L)),(3,.one (.p lo)),(9,.one (.ptr 0 0 0 0)),(10,.one (.p (.bool is))),(11,.one (.p (.int .i64 (.ofNat i))))]
inductive Aw (E:Xb)(lo:PL)(m:List Nat)(is:Bool):List PL->List PL->Bool->Prop
 |nil:Aw E lo m is [] [] true
 |none {q l r t1 t2 t3 t4:PL} {n:List Nat} {qs ls:List PL} {b:Bool} (h1:E.pure 42 [.one q,.one l]=some (.one r)) (h2:C4 E r lo t1 t2 t3 t4 n false) (h:Aw E lo m is qs ls b):Aw E lo m is (q::qs) (l::ls) b
 |le {q l r t1 t2 t3 t4:PL} {n:List Nat} {z:Int} {qs ls:List PL} {b:Bool} (h1:E.pure 42 [.one q,.one l]=some (.one r)) (h2:C4 E r lo t1 t2 t3 t4 n true) (hi:is=true) (h3:E.pure 31 [.one lo,.agg (mo n),.agg (mo m)]=some (.one (.int .i64 z))) (hz:T5 (.ofNat 0) z=false) (h:Aw E lo m is qs ls b):Aw E lo m is (q::qs) (l::ls) b
 |no {q l r t1 t2 t3 t4:PL} {n:List Nat} {qs ls:List PL} (h1:E.pure 42 [.one q,.one l]=some (.one r)) (h2:C4 E r lo t1 t2 t3 t4 n true) (hi:is=false) (hle:qs.length=ls.length):Aw E lo m is (q::qs) (l::ls) false
 |gt {q l r t1 t2 t3 t4:PL} {n:List Nat} {qs ls:List PL} (h1:E.pure 42 [.one q,.one l]=some (.one r)) (h2:C4 E r lo t1 t2 t3 t4 n true) (hi:is=true) (h3:E.pure 31 [.one lo,.agg (mo n),.agg (mo m)]=some (.one (.int .i64 (.ofNat 1)))) (hle:qs.length=ls.length):Aw E lo m is (q::qs) (l::ls) false
section
variable {E:Xb}{K k i:Nat}{Q L lo q l r u1 u2 u3 u4 t1 t2 t3 t4:PL}{m n:List Nat}{qs ls:List PL}
theorem A6 (e:E.mode=md)(y:Sl Q (Xu qs))(j:Sl L (Xu ls))(u:qs[i]? =some q)(g:ls[i]? =some l)(A:ls.length<1000000)(B:m.length=8)(is:Bool)(s:E.pure 42 [.one q,.one l]=some (.one r))(b:C4 E r lo t1 t2 t3 t4 n false)(G:List Xz):
  ∃o,Xc E K 0 [1,2,3,9,10,11] x19_1 (k+1) ⟨CJ Q L lo is i,Sg u1 u2 u3 u4 m::G⟩=Xc E K 0 [1,2,3,9,10,11] x19_1 k ⟨CJ Q L lo is (i+1),Sg u1 u2 u3 u4 m::o⟩:=by
 obtain⟨b,t⟩:=b;have d:i<ls.length:=(Zd.mp g).1;have v:=fun(c:HF) (f:IntKind)=>y.idx (h:=c) (k:=f) (sz:=1) (XI u) rfl
 have x:=fun(c:HF) (f:IntKind)=>j.idx (h:=c) (k:=f) (sz:=1) (XI g) rfl
 have a:=j.len;have p:Xe .i64 (.ofNat (i+1))=.ofNat (i+1):=wrap_i64 (by omega);have C:(Xm n).take 8=Xm n:=Zb (by rw[Xa];omega);have z:(Xm n).drop 8=[]:=Zj (by rw[Xa];omega);have w:=Xo n;apply Exists.intro;rw[Xc];simp(decide:=true)only[Xp,Xq,VN,WR,hS,Sg,reduceIte,Nat.reduceEqDiff,Nat.reduceLeDiff,Nat.reduceAdd,x19_1,e,XW,a,XH,d,v,x,s,b,p,t,XS,Xa,Zl];rfl
theorem ER {z:Int}(e:E.mode=md)(C:Sl Q (Xu qs))(j:Sl L (Xu ls))(x:qs[i]? =some q)(g:ls[i]? =some l)(I:ls.length<1000000)(u:m.length=8)(s:E.pure 42 [.one q,.one l]=some (.one r))(b:C4 E r lo t1 t2 t3 t4 n true)
  (t:E.pure 31 [.one lo,.agg (mo n),.agg (mo m)]=some (.one (.int .i64 z))) (y:T5 (.ofNat 0) z=false) (G:List Xz):
  ∃o,Xc E K 0 [1,2,3,9,10,11] x19_1 (k+1) ⟨CJ Q L lo true i,Sg u1 u2 u3 u4 m::G⟩=Xc E K 0 [1,2,3,9,10,11] x19_1 k ⟨CJ Q L lo true (i+1),Sg u1 u2 u3 u4 m::o⟩:=by
 obtain⟨b,v⟩:=b;have d:i<ls.length:=(Zd.mp g).1;have A:=fun(c:HF) (f:IntKind)=>C.idx (h:=c) (k:=f) (sz:=1) (XI x) rfl
 have B:=fun(c:HF) (f:IntKind)=>j.idx (h:=c) (k:=f) (sz:=1) (XI g) rfl
 have a:=j.len;have p:Xe .i64 (.ofNat (i+1))=.ofNat (i+1):=wrap_i64 (by omega);have F:(Xm n).take 8=Xm n:=Zb (by rw[Xa];omega);have H:(Xm n).drop 8=[]:=Zj (by rw[Xa];omega);have D:(Xm m).take 8=Xm m:=Zb (by rw[Xa];omega);have w:=Xo n;apply Exists.intro;rw[Xc];simp(decide:=true)only[Xp,Xq,VN,WR,hS,Sg,reduceIte,Nat.reduceEqDiff,Nat.reduceLeDiff,Nat.reduceAdd,x19_1,e,XW,a,XH,d,A,B,s,b,t,y,p,F,D,u,v,XS,Xa,XK,XN,Zl,Wa];rfl
theorem EP (e:E.mode=md)(z:Sl Q (Xu qs))(o:Sl L (Xu ls))(v:qs[i]? =some q)(j:ls[i]? =some l)(B:ls.length<1000000)(C:m.length=8)(t:E.pure 42 [.one q,.one l]=some (.one r))(b:C4 E r lo t1 t2 t3 t4 n true)(G:List Xz):
  ∃g s,Xc E K 0 [1,2,3,9,10,11] x19_1 (k+1) ⟨CJ Q L lo false i,Sg u1 u2 u3 u4 m::G⟩=some (.ret,⟨g,s⟩)/\Xh g 8=some (.one (.p (.bool false))):=by
 obtain⟨b,u⟩:=b;have d:i<ls.length:=(Zd.mp j).1;have x:=fun(c:HF) (f:IntKind)=>z.idx (h:=c) (k:=f) (sz:=1) (XI v) rfl
 have y:=fun(c:HF) (f:IntKind)=>o.idx (h:=c) (k:=f) (sz:=1) (XI j) rfl
 have a:=o.len;have D:(Xm n).take 8=Xm n:=Zb (by rw[Xa];omega);have A:(Xm n).drop 8=[]:=Zj (by rw[Xa];omega);have w:=Xo n;apply tN
 ·rw[Xc];simp(decide:=true)only[Xp,Xq,VN,WR,hS,Sg,reduceIte,Nat.reduceEqDiff,Nat.reduceLeDiff,Nat.reduceAdd,x19_1,e,XW,a,XH,d,x,y,t,b,u,XS,Xa,Zl];rfl
 ·simp only[Xp,reduceIte,Nat.reduceEqDiff]
theorem ES (e:E.mode=md)(B:Sl Q (Xu qs))(o:Sl L (Xu ls))(y:qs[i]? =some q)(j:ls[i]? =some l)(H:ls.length<1000000)(v:m.length=8)(t:E.pure 42 [.one q,.one l]=some (.one r))(b:C4 E r lo t1 t2 t3 t4 n true)
  (u:E.pure 31 [.one lo,.agg (mo n),.agg (mo m)]=some (.one (.int .i64 (.ofNat 1)))) (G:List Xz):
  ∃g s,Xc E K 0 [1,2,3,9,10,11] x19_1 (k+1) ⟨CJ Q L lo true i,Sg u1 u2 u3 u4 m::G⟩=some (.ret,⟨g,s⟩)/\Xh g 8=some (.one (.p (.bool false))):=by
 obtain⟨b,x⟩:=b;have d:i<ls.length:=(Zd.mp j).1;have z:=fun(c:HF) (f:IntKind)=>B.idx (h:=c) (k:=f) (sz:=1) (XI y) rfl
 have A:=fun(c:HF) (f:IntKind)=>o.idx (h:=c) (k:=f) (sz:=1) (XI j) rfl
 have a:=o.len;have D:(Xm n).take 8=Xm n:=Zb (by rw[Xa];omega);have F:(Xm n).drop 8=[]:=Zj (by rw[Xa];omega);have C:(Xm m).take 8=Xm m:=Zb (by rw[Xa];omega);have w:=Xo n;apply tN
 ·rw[Xc];simp(decide:=true)only[Xp,Xq,VN,WR,hS,Sg,reduceIte,Nat.reduceEqDiff,Nat.reduceLeDiff,Nat.reduceAdd,x19_1,e,XW,a,XH,d,z,A,t,b,u,D,C,v,x,XS,Xa,XK,XN,Zl,Wa];rfl
 ·simp only[Xp,reduceIte,Nat.reduceEqDiff]
end
theorem ET {E:Xb}{K:Nat}(c:E.mode=md){Q L lo u1 u2 u3 u4:PL}{m:List Nat}{N y:List PL}(B:Sl Q (Xu N))(x:Sl L (Xu y))(z:y.length<1000000)(A:m.length=8){is:Bool}{qs ls:List PL}{b:Bool}(h:Aw E lo m is qs ls b):∀(i k:Nat) (G:List Xz),N.drop i=qs->y.drop i=ls->i+ls.length=y.length->ls.length<k->
  ∃D r t,Xc E K 0 [1,2,3,9,10,11] x19_1 k ⟨CJ Q L lo is i,Sg u1 u2 u3 u4 m::G⟩=some (D,⟨r,t⟩)/\((b=true/\D=.exit 0)\/(b=false/\D=.ret/\Xh r 8=some (.one (.p (.bool false))))):=by
 induction h with
 |nil=>
  intro i k G _ _ f s;obtain⟨k,rfl⟩:∃d,k=d+1:=⟨k-1,by omega⟩;simp only[Zu,Z3]at f;subst f;have w:=x.len;refine⟨.exit 0,?_⟩;apply tN
  ·rw[Xc];simp only[Xp,Xq,reduceIte,Nat.reduceEqDiff,x19_1,w,XH,Zv];rfl
  ·exact .inl ⟨rfl,rfl⟩
 |none l n h M=>
  intro i k G q o f s;obtain⟨k,rfl⟩:∃d,k=d+1:=⟨k-1,by omega⟩;simp only[Zi]at f s;obtain⟨g,u⟩:=Xf q;obtain⟨j,v⟩:=Xf o;obtain⟨C,e⟩:=A6 (K:=K) (k:=k) (u1:=u1) (u2:=u2) (u3:=u3) (u4:=u4) c B x g j z A is l n G;rw[e];exact M (i+1) k C u v (by omega) (by omega)
 |le l n a I O h M=>
  intro i k G q o f s;obtain⟨k,rfl⟩:∃d,k=d+1:=⟨k-1,by omega⟩;subst a;simp only[Zi]at f s;obtain⟨g,u⟩:=Xf q;obtain⟨j,v⟩:=Xf o;obtain⟨C,e⟩:=ER (K:=K) (k:=k) (u1:=u1) (u2:=u2) (u3:=u3) (u4:=u4) c B x g j z A l n I O G;rw[e];exact M (i+1) k C u v (by omega) (by omega)
 |no l n a J=>
  intro i k G q o f s;obtain⟨k,rfl⟩:∃d,k=d+1:=⟨k-1,by omega⟩;subst a;obtain⟨g,u⟩:=Xf q;obtain⟨j,v⟩:=Xf o;obtain⟨r,t,F,H⟩:=EP (K:=K) (k:=k) (u1:=u1) (u2:=u2) (u3:=u3) (u4:=u4) c B x g j z A l n G;exact⟨.ret,r,t,F,.inr ⟨rfl,rfl,H⟩⟩
 |gt l n a I J=>
  intro i k G q o f s;obtain⟨k,rfl⟩:∃d,k=d+1:=⟨k-1,by omega⟩;subst a;obtain⟨g,u⟩:=Xf q;obtain⟨j,v⟩:=Xf o;obtain⟨r,t,F,H⟩:=ES (K:=K) (k:=k) (u1:=u1) (u2:=u2) (u3:=u3) (u4:=u4) c B x g j z A l n I G;exact⟨.ret,r,t,F,.inr ⟨rfl,rfl,H⟩⟩
theorem O9 {B:Xr}(f:Std B){P Q L lo u1 u2 u3 u4:PL}{m:List Nat}{is:Bool}{qs ls:List PL}(p:Sl Q (Xu qs))(o:Sl L (Xu ls))(l:ls.length<1000000)(n:Xs B 49 [.one lo] (.one (.bool true)))(k:Xs B 62 [.one P,.one Q,.one L] (.one (.bool true)))
  (d:m.length=8) (j:Xs B 29 [.one P,.one lo] (.XY [.agg (u1::u2::u3::u4::mo m),.one (.bool is)])) {b:Bool} (h:X0 B fun E _=>Aw E lo m is qs ls b):Xs B 19 [.one P,.one Q,.one L,.one lo] (.one (.bool b)):=by
 refine Xs.of (f.X6 _ _ rfl) ((h.and (n.Xi.and (k.Xi.and (j.Xi.and (f.Xi.and (X0.ge (ls.length+1))))))).mono fun E K ⟨g,ev,e,e1,a,v⟩=> ?_);obtain⟨u,s,r,c,i⟩:=ET (K:=K) (u1:=u1) (u2:=u2) (u3:=u3) (u4:=u4) a p o l d g 0 K [] rfl rfl (by omega) (by omega);have x:(Xm m).take 8=Xm m:=Zb (by rw[Xa];omega);have t:(Xm m).drop 8=[]:=Zj (by rw[Xa];omega);have w:=Xo m;simp only[CJ,Sg]at c;rcases i with⟨rfl,rfl⟩|⟨rfl,rfl,q⟩
 ·simp(decide:=true)only[Xp,Xq,WR,reduceIte,Nat.reduceAdd,x19,a,XW,ev,e,e1,c,d,XS,Xa]
 ·simp(decide:=true)only[Xp,Xq,WR,reduceIte,Nat.reduceAdd,x19,a,XW,ev,e,e1,c,q,d,XS,Xa]
end Go.Proofs.YtefpgecinlekpaaGreat
