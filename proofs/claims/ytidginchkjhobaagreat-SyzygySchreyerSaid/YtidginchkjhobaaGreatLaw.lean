/- The law SyzygySchreyer, its walk. -/
import Derived.Test.YtidginchkjhobaaGreatSchB
set_option maxHeartbeats 16000000
set_option maxRecDepth 100000
namespace Go.Proofs.YtidginchkjhobaaGreat
open Go.Ev Go.Num
def DN (E:Xa)(gs:N')(xss yss:I'):Prop:=
 ∀(i:Nat) (xs:N'),xss[i]? =some xs->∃ys,yss[i]? =some ys/\E.pure 21 [.one (.Xn (Xf xs)),.one (.Xn (Xf ys))]=some (.one (.bool true))/\E.pure 13 [.one (.Xn (Xf xs)),.one (.Xn (Xf gs))]=some (.one (.bool true))
abbrev HT (v:Nat)(o:N'):Xx:=⟨true,v,1,pc (Xf o),false,33⟩
abbrev HG (M Y:PL)(v n i:Nat):List (Nat×DV):=[(7,.one (.p (.bool true))),(9,.one (.own 2 v 0 n)),(10,.one (.p M)),(12,.one (.p Y)),(14,LB i)]
theorem JA {E:Xa}{K:Nat}(n:E.mode=md){M:PL}{e:N'}{a c:I'}(u:Sl M (Xf (ON a)))(Q:a.length<1000000)(h:DN E e a c){v:Nat}(w x:Xx):∀(d i k:Nat) (G:V'),i+d=a.length->d<k->
  ∃g j,Xb E K 0 [7,9,10,12,14] x4_1 k ⟨HG M (.Xn (Xf (ON c))) v e.length i,w::x::HT v e::G⟩=some (.exit 0,⟨g,j⟩)/\Xh g 7=some (.one (.p (.bool true))):=by
 have b:=u.len;rw[Xt,ZP]at b;intro d;induction d with
 |zero=>
  intro i k G m H;obtain⟨k,rfl⟩:∃o,k=o+1:=⟨k-1,by omega⟩;simp only[Z0]at m;subst m;apply DU
  ·rw[Xb];simp only[Xo,Xr,reduceIte,Nat.reduceEqDiff,x4_1,b,Zv];rfl
  ·simp only[Xo,reduceIte,Nat.reduceEqDiff]
 |succ d L=>
  intro i k G m H;obtain⟨k,rfl⟩:∃o,k=o+1:=⟨k-1,by omega⟩;have f:i<a.length:=by omega
  obtain⟨P,J,r,s⟩:=h i _ (Zg f);have t:=Zg f;generalize a[i]=xs at t r s;have B:(ON a)[i]? =some (.Xn (Xf xs)):=by simp[t]
  have C:(ON c)[i]? =some (.Xn (Xf P)):=by simp[J]
  have N:=fun(l:HF) (q:IntKind)=>u.idx (h:=l) (k:=q) (sz:=1) (XY B) rfl
  have O:=fun(l:HF) (q:IntKind)=>(Sl.Xn:Sl (.Xn (Xf (ON c))) (Xf (ON c))).idx (h:=l) (k:=q) (sz:=1) (XY C) rfl
  have y:Xe .i64 (.ofNat (i+1))=.ofNat (i+1):=wrap_i64 (by omega);have I:(pc (Xf e)).take e.length=pc (Xf e):=WV (Xf e) (by rw[Xt];exact Ze _);have F:=fun h=>Ve 5 h (Xf e)
  have D:=OU;obtain⟨g,j,z,A⟩:=L (i+1) k G (by omega) (by omega);refine⟨g,j,?_,A⟩;rw[Xb];simp(decide:=true)only[Xo,Xr,VR,Vx,reduceIte,Nat.reduceEqDiff,Nat.reduceLeDiff,Nat.reduceAdd,x4_1,n,X4,f,b,N,O,r,s,y,I,F,D,Wm,Xt,Ze];exact z
theorem C4 {a b:Int}(h:a≠b):Oi a b=false:=by
 rw[dX];exact beq_false_of_ne h
structure J3 (E:Xa)(os:N')(P:PL)(en:Nat)(c:Int)(gs:N'):Prop where
 res:(os=[]/\gs=[])\/∃o0 r,os=o0::r/\∃g1,((en=0/\g1=o0::r)\/(0<en/\∃y,E.pure 11 [.one P,.one o0]=some (.one y)/\g1=(o0::r)++[y]))/\
  ((c=0/\gs=g1)\/(c≠0/\∃w1 w2 w3 w4 z,E.pure 18 [.one (.int .i64 c)]=some (.agg [w1,w2,w3,w4])/\E.pure 17 [.agg [w1,w2,w3,w4],.one o0]=some (.one z)/\gs=g1.set 0 z))
theorem lS {n m:Nat}(h:2*m=n*(n-1))(c:n<=1000):Tk .i64 (Xe .i64 (Int.ofNat n*Xe .i64 (Int.ofNat n-Int.ofNat 1))) (Int.ofNat 2)=some (.p (LA m)):=by
 cases n with
 |zero=>
  have :m=0:=by omega
  subst this;rfl
 |succ k=>
  rw[Yj]at h;have d:(k+1)*k<=1000*1000:=ZT c (by omega);have e1:Int.ofNat (k+1)-Int.ofNat 1=Int.ofNat k:=by simp only[Zz];omega
  have e2:Int.ofNat (k+1)*Int.ofNat k=Int.ofNat ((k+1)*k):=rfl;rw[e1,wrap_i64 (by omega),e2,wrap_i64 (by omega)];have b:∀a:Nat,Tk .i64 (.ofNat a) (.ofNat (1+1))=some (.p (.int .i64 (Xe .i64 (.ofNat (a / (1+1)))))):=fun a=>by simp only[Xr]
  rw[b,wrap_i64 (by omega)];have :(k+1)*k / (1+1)=m:=by omega
  rw[this]
theorem Cp {E:Xa}{K:Nat}(q:E.mode=md){lo X R P M:PL}{o b rs:N'}{es:I'}{l B:I'}{k:Nat}{c:Int}(a4: -128<=c)(a5:c<=127)(a6:o.length<=900)(hK:l.length<K)
  (W:E.pure 7 []=some (.one (.bool true))) (Z:E.pure 15 [.one (.int .u8 (.ofNat k))]=some (.one lo)) (hp:E.pure 8 [.agg [X,.int .u8 (.ofNat k)]]=some (.one (.Xn (Xf rs))))
  (T:∀H,TX E 16 [.one (.p (.Xn (Xf rs))),.one (.p lo)] H=some (.one (.own H.length o.length 0 o.length),H++[Oh o.length o])) (hq:E.pure 9 [.agg [R]]=some (.one P)) (sP:Sl P es) (a0:J3 E o P es.length c b)
  (V:E.pure 19 [.one (.Xn (Xf b)),.one lo]=some (.X9 [.one M,.one (LA 0)])) (sM:Sl M (Xf (ON l))) (U:E.pure 20 [.one (.Xn (Xf b)),.one lo]=some (.X9 [.one (.Xn (Xf (ON B))),.one (LA 0)])) (a3:B.length=l.length) (hn:2*l.length=b.length*(b.length-1)) (hP:DN E b l B):
  UX E K x4 [.agg [X,.int .u8 (.ofNat k)],.agg [R],.one (.int .i8 c)]=some (.one (.bool true)):=by
 have F:=sP.len;have i:=sM.len;rw[Xt,ZP]at i;have j:=(Sl.Xn (es:=Xf (ON B))).len;rw[Xt,ZP,a3]at j;have Y:Xe .i64 c=c:=cL (by omega) (by omega);have a7:∀x:PL,Xf [x]=[[x]]:=fun _=>rfl
 have s:∀(v:Nat) (b0 S:Xx) (G:V'),b.length<=1000->∃J Q,Xb E K 0 [7,9,10,12,14] x4_1 K ⟨HG M (.Xn (Xf (ON B))) v b.length 0,b0::S::HT v b::G⟩=some (.exit 0,⟨J,Q⟩)/\Xh J 7=some (.one (.p (.bool true))):=fun v b0 S G g=>by
  have :b.length*(b.length-1)<=1000*1000:=ZT g (by omega);exact JA q sM (by omega) hP b0 S l.length 0 K G (by omega) hK
 have O:(pc (Xf b)).take b.length=pc (Xf b):=WV (Xf b) (by rw[Xt];exact Ze _);have hf:=fun h=>Ve 5 h (Xf b)
 have hd:=OU;have A:∀es:I',(PL.Xn es).scalar=false:=fun _=>rfl
 rcases a0.res with⟨rfl,rfl⟩|⟨o0,r,u,g1,h1,h2⟩
 ·obtain⟨J,Q,e,C⟩:=s 0 ⟨false,0,2,[[.p X,.p (.int .u8 (.ofNat k))]],false,24⟩ ⟨false,0,1,[[.p R]],false,27⟩ [] (by simp);simp only[Zr,YJ,Nat.zero_sub]at hn e;have a2:l.length=0:=by omega
  rw[a2]at i j;simp only[HG,HT]at e;simp only[Zr]at T;have a:=lS (n:=0) (m:=0) rfl (by omega);have a1:Xf ([]:N')=[]:=rfl;rw[a1]at V U;cases D:M.scalar<;>simp(decide:=true)only[Xo,Xr,Vx,reduceIte,Nat.reduceAdd,x4,q,X4,W,Z,hp,T,V,U,i,j,D,A,e,C,a,Wm,Xt]
 ·have d:0<o.length:=by rw[u];simp
  have h0:o[0]? =some o0:=by rw[u];rfl
  have g0:=N8 h0;have g:b.length<=1000:=by
   have :g1.length<=901:=by
    rcases h1 with⟨-,rfl⟩|⟨-,y,-,rfl⟩
    ·rw[<-u];omega
    ·rw[<-u,Zm,ZO];omega
   rcases h2 with⟨-,rfl⟩|⟨-,w1,w2,w3,w4,z,-,-,rfl⟩
   ·omega
   ·rw[ZL];omega
  have a:=lS hn g;rw[<-u]at h1;rcases h1 with⟨N,rfl⟩|⟨N,y,hy,rfl⟩
  ·have I:¬0<es.length:=by omega
   rcases h2 with⟨f,rfl⟩|⟨f,w1,w2,w3,w4,z,hw,hz,rfl⟩
   ·have t:c=Int.ofNat 0:=f;subst t;obtain⟨J,Q,e,C⟩:=s b.length ⟨false,0,2,[[.p X,.p (.int .u8 (.ofNat k))]],false,24⟩ ⟨false,0,1,[[.p R]],false,27⟩ [] g;simp only[HG,HT]at e;cases D:M.scalar<;>simp(decide:=true)only[Xo,Xr,Vx,reduceIte,Nat.reduceAdd,x4,q,X4,W,Z,hp,T,hq,F,V,U,i,j,O,hf,hd,D,A,e,C,a,d,I,Wm,Xt,Ze]
   ·have L:Oi c (Int.ofNat 0)=false:=C4 f;obtain⟨J,Q,e,C⟩:=s (g1.length) ⟨false,0,2,[[.p X,.p (.int .u8 (.ofNat k))]],false,24⟩ ⟨false,0,1,[[.p R]],false,27⟩ [] g;simp only[HG,HT,ZL]at e a O;cases D:M.scalar<;>simp(decide:=true)only[Xo,Xr,Vx,reduceIte,Nat.reduceAdd,x4,q,X4,W,Z,hp,T,hq,F,V,U,i,j,O,hf,hd,D,A,e,C,a,d,g0,I,L,Y,hw,hz,gx,ZL,Wm,Xt,Ze]
  ·have S:(o.length+1)*24<=lim:=by unfold lim;omega
   have b2:o.length+1<=9223372036854775807:=by omega
   have g1:(pc (Xf (o++[y])))[0]? =some [.p o0]:=N8 (by rw[ZA d];exact h0);have w:0<o.length+1:=by omega
   rcases h2 with⟨f,rfl⟩|⟨f,w1,w2,w3,w4,z,hw,hz,rfl⟩
   ·have t:c=Int.ofNat 0:=f;subst t;obtain⟨J,Q,e,C⟩:=s (o.length+1) ⟨false,0,2,[[.p X,.p (.int .u8 (.ofNat k))]],false,24⟩ ⟨false,0,1,[[.p R]],false,27⟩ [⟨false,0,1,[[.p y]],false,33⟩] g;simp only[HG,HT,Zm,ZO]at e a O;cases D:M.scalar<;>simp(decide:=true)only[Xo,Xr,Vx,reduceIte,Nat.reduceAdd,x4,q,X4,W,Z,hp,T,hq,F,V,U,i,j,O,hf,hd,D,A,e,C,a,d,g0,N,hy,S,b2,w,iJ,Zm,Wm,Xt,Ze]
   ·have L:Oi c (Int.ofNat 0)=false:=C4 f;obtain⟨J,Q,e,C⟩:=s (o.length+1) ⟨false,0,2,[[.p X,.p (.int .u8 (.ofNat k))]],false,24⟩ ⟨false,0,1,[[.p R]],false,27⟩ [⟨false,0,1,[[.p y]],false,33⟩] g;simp only[HG,HT,ZL,Zm,ZO]at e a O;cases D:M.scalar<;>simp(decide:=true)only[Xo,Xr,Vx,reduceIte,Nat.reduceAdd,x4,q,X4,W,Z,hp,T,hq,F,V,U,i,j,O,hf,hd,D,A,e,C,a,d,g0,N,hy,S,b2,g1,w,L,Y,hw,hz,gx,iJ,ZL,Zm,Wm,Xt,Ze]
section
variable {B:Xs}{o:M'}{w:P'}
theorem FO (Q:Std B){ms:List (Nat×Nat)}{G n N e:Nat}(GP:tO o ms w G n N)(X:Iy w G N e){v:S'}(I:K2 o w G N v){q:Z'}(hq:G2 1 6 2 q){P:PL}{L:I'}(pq:PQ P q)(H:L.length=q.length){os:N'}(T:VS os v){c:Int}(a2: -128<=c)(a3:c<=127):
  ∃gs,(XS B fun E _=>J3 E os P L.length c gs)/\VS gs (JQ (JR v q) c):=by
 cases T with
 |nil=>exact⟨[],XS.of fun _ _=>⟨.inl ⟨rfl,rfl⟩⟩,.nil⟩
 |@cons j g r A h0 p=>
  obtain⟨m,C,F,f1,f2,f3,f4,f5⟩:=I.el g (Zc ..);obtain⟨D,d1,d2,d3⟩:=F.IM;have xm:=X.hm;have xV:=X.V;have x6:=X.e6;have J:Sz g:=F.sz.1;have a6:(32:Nat)^(101*G+3)=32^(101*G)*32768:=Yu ..;obtain⟨s,f,k1,k2,k3⟩:∃s f,(XS B fun E _=>(L.length=0/\j::s=j::r)\/(0<L.length/\∃y,E.pure 11 [.one P,.one j]=some (.one y)/\j::s=(j::r)++[y]))/\VS s f/\JR (g::A) q=g::f:=by
   by_cases k:q=[]
   ·refine⟨r,A,XS.of fun _ _=>.inl ⟨by rw[H,k];rfl,rfl⟩,p,?_⟩;show(if q=[]then g::A else(g::A)++[WY [] q g])=_;rw[if_pos k]
   ·have d:=hq.1;have fq:VQ 1 6 q:=fun t p=>by
     obtain⟨z,z1,M⟩:=d.cf t p;exact⟨z,by rw[z1];exact Rat.mul_one _,M⟩
    have lq:=d.len;have a5:q.length*(6*C)<=2*(6*C):=Zn _ lq;have a4:q.length*g.length<=2*100:=ZT lq f3;obtain⟨y,y1,y2⟩:=bt Q pq h0 (fq.NU (h:=1) (by decide) (by decide) (by decide) (by decide)) J (fun t p=>⟨d.pl.dc.nz t p,fun u hu=>by
     obtain⟨a,b,e1,R⟩:=hq.2 t p;have O:t.2=Vi a b:=e1;have w1:=X.q a b R;have Y:=f4 u hu;have u8:=F.pl.q8 u hu;have t8:=d.pl.q8 t p;refine ez.ok (w:=w) (W:=200) ⟨Vr t8 u8,?_⟩ GP.g.w8 GP.g.wp (by omega);rw[W1 w (t8.trans u8.symm),O];omega⟩) (uT (D:=1) (a:=6) (c:=0) (C:=12*C) F.pl.q8 d3 (fun{c' l} S hf=>(hf.mono S).NU (h:=101*G+3) (by omega) (by omega) (by omega) (by omega)) d.pl.q8 (fun _ h=>by cases h) fq (fun _ h=>by cases h) (by omega)) (by omega) (by omega) (by omega)
    refine⟨r++[y],A++[WY [] q g],y1.Xk.mono fun E K e1=>.inr ⟨by rw[H];exact List.length_pos_iff.2 k,y,e1,rfl⟩,p.append (.cons y2 .nil),?_⟩;show(if q=[]then g::A else(g::A)++[WY [] q g])=_;rw[if_neg k];rfl
  rw[k3];by_cases i:c=0
  ·refine⟨j::s,k1.mono fun E K e1=>⟨.inr ⟨j,r,rfl,j::s,e1,.inl ⟨i,rfl⟩⟩⟩,?_⟩;show VS _ (if c=0 then g::f else X1 (c:Rat) g::f);rw[if_pos i];exact .cons h0 k2
  ·obtain⟨cw,w1,Y⟩:=Rm Q (x:=c) (by unfold DE;omega);obtain⟨U,Z,a0,a1,rfl⟩:=Y.len;obtain⟨z,z1,M⟩:=Oz Q (c:=[.bool U,Z,.bool a0,a1]) (z:=(c:Rat)) Y (Sq.int (by omega)) h0 J (by omega);rw[if_neg (int_ne i)]at M;refine⟨z::s,(k1.and (w1.Xk.and z1.Xk)).mono fun E K ⟨e1,e2,e3⟩=>⟨.inr ⟨j,r,rfl,j::s,e1,.inr ⟨i,_,_,_,_,z,e2,e3,rfl⟩⟩⟩,?_⟩;show VS _ (if c=0 then g::f else X1 (c:Rat) g::f);rw[if_neg i];exact .cons M k2
theorem Cq (F:vM B)(hB:pv B)(h7:Xu B 7 [] (.one (.bool true))){L R t:PL}(hL:gr L){k:Nat}(x:Xu B 15 [.one (.int .u8 (.ofNat k))] (.one t))(V:TR t (U0 k))(hv:Xu B 50 [.one t] (.one (.bool true)))(m:Xu B 22 [.one t] (.one (.bool true)))(hR:QR R){c:Int}(g: -128<=c)(j:c<=127):
  Xu B 4 [.agg [L,.int .u8 (.ofNat k)],.agg [R],.one (.int .i8 c)] (.one (.bool true)):=by
 have b:=F.toStd;obtain⟨rs,fs,p1,Q,p3,p4⟩:=yU b (k:=.int .u8 (.ofNat k)) hL;obtain⟨P,q,q1,q2,T⟩:=BV b hR;obtain⟨es,U,S⟩:=q2;obtain⟨ms,w,hm,n,Vm,e,v,X⟩:=EZ k;obtain⟨N,O⟩:=Hw k;have a4:=Q.length;obtain⟨os,a0,g1,C,I⟩:=vq b V N O m v (L:=.Xn (Xf rs)) .Xn Q p3 (by omega);have a5:=C.length;have a6:=I.ln;obtain⟨s,c1,A⟩:=FO b v X I T ⟨es,U,S⟩ S.length C g j;have H:=Ij v X N O I T (c:=c) (by omega);obtain⟨M,a,r,sM,s1,s2,D,l⟩:=H.both hB V hv m (G:=.Xn (Xf s)) .Xn A;have z:=D.len;have f:XS B fun E _=>DN E s a r:=by
  have key:=XS.all (B:=B) (p:=fun i E _=>∀d,a[i]? =some d->∃u,r[i]? =some u/\E.pure 21 [.one (.Xn (Xf d)),.one (.Xn (Xf u))]=some (.one (.bool true))/\E.pure 13 [.one (.Xn (Xf d)),.one (.Xn (Xf s))]=some (.one (.bool true))) a.length fun i J=>by
   obtain⟨u,W,Y,Z⟩:=H.each F (G:=.Xn (Xf s)) .Xn A D (Zg J);refine(Y.Xk.and Z.Xk).mono fun E K ⟨e1,e2⟩ d o=> ?_
   rw[Zg J]at o;cases o;exact⟨u,W,e1,e2⟩
  exact key.mono fun E K h i d o=>h i (Zf.1 o).1 d o
 refine Xu.of (b.Wa _ _ rfl) ((h7.Xk.and (x.Xk.and (p1.Xk.and (g1.and (q1.Xk.and (c1.and (s1.Xk.and (s2.Xk.and (f.and (b.Xk.and (XS.ge (a.length+1)))))))))))).mono fun E K ⟨e0,e1,e2,e3,e4,e5,e6,e7,e8,y,hK⟩=> ?_);exact Cp y g j (by omega) (by omega) e0 e1 e2 e3 e4 U e5 e6 sM e7 z l e8
end
end Go.Proofs.YtidginchkjhobaaGreat
