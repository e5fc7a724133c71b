/- Package syzygy: vectors: minus, unit, position. -/
import Derived.Test.YtidginchkjhobaaGreatMap
set_option maxHeartbeats 16000000
set_option maxRecDepth 100000
namespace Go.Proofs.YtidginchkjhobaaGreat
open Go.Ev Go.Num
abbrev Kb (cs:N'):Xx:=⟨false,0,1,pc (Xf cs),false,33⟩
theorem gx {a:N'}{i:Nat}{x:PL}:(pc (Xf a)).set i [.p x]=pc (Xf (a.set i x)):=by
 simp[pc,Xf,List.map_set]
theorem N8 {cs:N'}{i:Nat}{p:PL}(h:cs[i]? =some p):(pc (Xf cs))[i]? =some [.p p]:=by
 simp[pc,Xf,h]
abbrev Ka (V:PL)(n i:Nat):List (Nat×DV):=[(3,.one (.own 0 0 0 n)),(9,.one (.p V)),(10,LB n),(11,LB i)]
theorem AN {E:Xa}{K k i:Nat}(d:E.mode=md){V p x:PL}{a b:N'}(q:Sl V (Xf a))(e:a[i]? =some p)(r:b.length=a.length)(s:a.length<1000000)(j:E.pure 67 [.one .Xq,.one p]=some (.one x)):
  Xb E K 0 [3,9,10,11] x105_1 (k+1) ⟨Ka V a.length i,[Kb b]⟩=Xb E K 0 [3,9,10,11] x105_1 k ⟨Ka V a.length (i+1),[Kb (b.set i x)]⟩:=by
 have c:i<a.length:=(Zf.mp e).1;have n:=fun(l:HF) (o:IntKind)=>q.idx (h:=l) (k:=o) (sz:=1) (XY e) rfl
 have f:Xe .i64 (.ofNat (i+1))=.ofNat (i+1):=wrap_i64 (by omega);obtain⟨y,m⟩:∃y,b[i]? =some y:=⟨_,Zg (by omega)⟩;have g:=N8 m;rw[Xb];simp(decide:=true)only[Xo,Xr,Vx,reduceIte,x105_1,d,X4,c,n,j,f,g,gx]
theorem lz {b:Type}{a:List b}{i:Nat}{x:b}(h:i<a.length):(a.set i x).take (i+1)=a.take i++[x]:=by
 apply List.ext_getElem?;intro j;rcases Nat.lt_trichotomy j i with hj|rfl|hj
 ·rw[Z8,if_pos (by omega),ZK (by omega),ZA (by simp;omega),Z8,if_pos hj]
 ·rw[Z8,if_pos (by omega),Yv h,ZJ (by rw[ZX];omega),ZX,Yy (by omega),YH];rfl
 ·rw[Yd (by simp;omega),Yd (by simp;omega)]
theorem IY {E:Xa}{K:Nat}(g:E.mode=md){V:PL}{b:N'}(v:Sl V (Xf b))(t:b.length<1000000){rest a:N'}(h:XB (fun p x=>E.pure 67 [.one .Xq,.one p]=some (.one x)) rest a):∀(i k:Nat) (c:N'),b.drop i=rest->i+rest.length=b.length->c.length=b.length->rest.length<k->
  ∃d,Xb E K 0 [3,9,10,11] x105_1 k ⟨Ka V b.length i,[Kb c]⟩=some (.exit 0,⟨d,[Kb (c.take i++a)]⟩)/\Xh d 3=some (.one (.own 0 0 0 b.length)):=by
 induction h with
 |nil=>
  intro i k c _ e f m;obtain⟨k,rfl⟩:∃j,k=j+1:=⟨k-1,by omega⟩;simp only[Zr,Z0]at e;subst e;rw[ZE,Zd (by omega)];apply VO
  ·rw[Xb];simp only[Xo,Xr,reduceIte,Nat.reduceEqDiff,x105_1,Zv];rfl
  ·simp only[Xo,reduceIte,Nat.reduceEqDiff]
 |@cons p x rest a r h u=>
  intro i k c s e f m;obtain⟨k,rfl⟩:∃j,k=j+1:=⟨k-1,by omega⟩;simp only[Zi]at e m;obtain⟨q,n⟩:=Xi s;rw[AN g v q f t r];obtain⟨d,l,o⟩:=u (i+1) k (c.set i x) n (by omega) (by simpa using f) (by omega);rw[lz (by omega),Zq]at l;exact⟨d,l,o⟩
theorem Bz (n:Nat):List.replicate n [DL.p .Xq]=pc (Xf (List.replicate n .Xq)):=by
 simp[pc,Xf]
theorem rH {B:Xs}(f:Std B){V:PL}{b a:N'}(i:Sl V (Xf b))(s:b.length<100000)(h:XS B fun E _=>XB (fun p x=>E.pure 67 [.one .Xq,.one p]=some (.one x)) b a):Xu B 105 [.one V] (.one (.Xn (Xf a))):=by
 refine Xu.of (f.Wa _ _ rfl) ((h.and (f.Xk.and (XS.ge (b.length+1)))).mono fun E K ⟨d,c,r⟩=> ?_);obtain⟨q,e,m⟩:=IY (K:=K) c i (by omega) d 0 K (List.replicate b.length .Xq) rfl (by omega) (by simp) (by omega);have g:=i.len;rw[Xt]at g;simp only[Ka,List.take_zero,ZF]at e;have j:24*b.length<=lim:=by unfold lim;omega
 have k:b.length<=9223372036854775807:=by omega
 have t:=d.length;have l:b.length<=a.length:=by omega
 have o:(pc (Xf a)).take b.length=pc (Xf a):=WV (Xf a) (by rw[Xt];omega);have n:=fun h=>Ve 5 h (Xf a)
 simp(decide:=true)only[Xo,Xr,VR,reduceIte,x105,g,j,k,Bz,e,m,o,n,Wm,Xt,l]
theorem sF {n:Nat}{h:HF}{l:DL}{p:PL}(b:XC (n+1) h l=some p):∀(a:N') (i:Nat),Xv (Xv (XC (n+1) h)) ((pc (Xf a)).set i [l])=some (Xf (a.set i p))
 |[],_=>rfl
 |c::a,0=>by
  have:=Ve (n+1) h (Xf a);simp only[pc,Xf,Zt,ZN,List.set_cons_zero,Xv,b]at this⊢;rw[this]
 |c::a,i+1=>by
  have:=sF b a i;have e:XC (n+1) h (.p c)=some c:=rfl;simp only[pc,Xf,Zt,ZN,YQ,Xv,e]at this⊢;rw[this]
theorem CP {n:Nat}{H:V'}{id:Nat}{c:N'}{ty:Nat}(h:H[id]? =some ⟨false,0,12,[c.map .p],false,ty⟩):XC (n+1) (Xj H) (.own id 0 0 1)=some (.Xn [c]):=by
 have e:Xj H id=some ⟨false,0,12,[c.map .p],false,ty⟩:=h;have:=Ve n (Xj H) [c];simp only[pc,Zt,ZN]at this;simp only[XC,e,YA,Yh,List.take_succ_cons,List.take_zero,this];rfl
theorem gz {B:Xs}(e:Std B){i n:Nat}{a b c d:PL}{m:P'}(u:m.length=8)(f:i<n)(x:n<100000):
  Xu B 103 [.one (LA i),.one (LA n),.agg [a,b,c,d],.agg (mo m)] (.one (.Xn (Xf ((List.replicate n .Xq).set i (.Xn [a::b::c::d::mo m]))))):=by
 refine Xu.of (e.Wa _ _ rfl) (e.Xk.mono fun E K v=> ?_);have r:24*n<=lim:=by unfold lim;omega
 have s:n<=9223372036854775807:=by omega
 have t:=N8 (cs:=List.replicate n PL.Xq) (i:=i) (p:=.Xq) (by rw[Yf,if_pos f]);have w:∀l,((pc (Xf (List.replicate n PL.Xq))).set i l).take n=(pc (Xf (List.replicate n PL.Xq))).set i l:=fun l=>Zd (by rw[ZL,Wm,Xt,YO];exact Ze _)
 obtain⟨g,e1,e2,h,j,k,o,q,rfl⟩:=eight u;simp(decide:=true)only[Xo,Xr,reduceIte,Nat.reduceAdd,x103,r,s,Bz,f,t,mo,w,Wm,Xt,ZL,YO,Ze];rw[sF (CP (c:=a::b::c::d::mo [g,e1,e2,h,j,k,o,q]) (ty:=75) rfl)];rfl
abbrev F9 (cs:N'):Xx:=⟨false,1,1,pc (Xf cs),false,33⟩
abbrev J6 (E:Xa)(c x o:PL):Prop:=E.pure 68 [.one c,.one x]=some (.one o)
inductive tR (E:Xa):N'->N'->N'->Prop
 |nil:tR E [] [] []
 |cons {c x o:PL} {cs xs os:N'} (h:J6 E c x o) (t:tR E cs xs os):tR E (c::cs) (x::xs) (o::os)
theorem tR.len {E:Xa}{a c b:N'}(h:tR E a c b):c.length=a.length/\b.length=a.length:=by
 induction h with
 |nil=>exact⟨rfl,rfl⟩
 |cons _ _ d=>simp[d]
inductive km (E:Xa):N'->N'->N'->Prop
 |nil (cs:N'):km E cs [] cs
 |cons {cs xs cs1 out rest:N'} {X:PL} (sx:Sl X (Xf xs)) (h:tR E cs xs cs1) (t:km E cs1 rest out):km E cs (X::rest) out
theorem km.len {E:Xa}{b rest a:N'}(h:km E b rest a):a.length=b.length:=by
 induction h with
 |nil=>rfl
 |cons _ h _ c=>rw[c,h.len.2]
abbrev J9 (O X:PL)(n N j i:Nat):List (Nat×DV):=[(5,.one (.own 0 1 0 n)),(12,.one (.p O)),(13,LB N),(14,LB j),(18,.one (.p X)),(19,LB n),(20,LB i)]
theorem AM {E:Xa}{K k i N j:Nat}(e:E.mode=md){O X c p x:PL}{a b:N'}(s:Sl X (Xf a))(f:a[i]? =some p)(o:b[i]? =some c)(t:b.length=a.length)(u:a.length<1000000)(m:J6 E c p x):
  Xb E K 0 [5,12,13,14,18,19,20] x69_1 (k+1) ⟨J9 O X a.length N j i,[F9 b]⟩=Xb E K 0 [5,12,13,14,18,19,20] x69_1 k ⟨J9 O X a.length N j (i+1),[F9 (b.set i x)]⟩:=by
 have d:i<a.length:=(Zf.mp f).1;have q:=fun(n:HF) (r:IntKind)=>s.idx (h:=n) (k:=r) (sz:=1) (XY f) rfl
 have g:Xe .i64 (.ofNat (i+1))=.ofNat (i+1):=wrap_i64 (by omega);have l:=N8 o;rw[Xb];simp(decide:=true)only[Xo,Xr,Vx,reduceIte,x69_1,e,X4,d,q,m,g,l,gx]
theorem IW {E:Xa}{K N j:Nat}(n:E.mode=md){O X:PL}{e:N'}(C:Sl X (Xf e))(A:e.length<1000000){g rest a:N'}(h:tR E g rest a):∀(i k:Nat) (d:N'),e.drop i=rest->d.drop i=g->i+rest.length=e.length->d.length=e.length->rest.length<k->
  ∃b,Xb E K 0 [5,12,13,14,18,19,20] x69_1 k ⟨J9 O X e.length N j i,[F9 d]⟩=some (.exit 2,⟨b,[F9 (d.take i++a)]⟩)/\Xh b 5=some (.one (.own 0 1 0 e.length))/\Xh b 12=some (.one (.p O))/\Xh b 13=some (LB N)/\Xh b 14=some (LB j):=by
 induction h with
 |nil=>
  intro i k d _ _ f l r;obtain⟨k,rfl⟩:∃o,k=o+1:=⟨k-1,by omega⟩;simp only[Zr,Z0]at f;subst f;rw[ZE,Zd (by omega)];apply VO
  ·rw[Xb];simp only[Xo,Xr,reduceIte,Nat.reduceEqDiff,x69_1,Zv];rfl
  ·simp only[Xo,reduceIte,Nat.reduceEqDiff,and_self]
 |@cons c p x g rest a y h B=>
  intro i k d z m f l r;obtain⟨k,rfl⟩:∃o,k=o+1:=⟨k-1,by omega⟩;simp only[Zi]at f r;obtain⟨v,s⟩:=Xi z;obtain⟨w,t⟩:=Xi m;rw[AM n C v w l A y];obtain⟨b,q,u⟩:=B (i+1) k (d.set i x) s (by rw[List.drop_set_of_lt (by omega)];exact t) (by omega) (by simpa using l) (by omega);rw[lz (by omega),Zq]at q;exact⟨b,q,u⟩
abbrev K6 (O:PL)(n N j:Nat):List (Nat×DV):=[(5,.one (.own 0 1 0 n)),(12,.one (.p O)),(13,LB N),(14,LB j)]
theorem IX {E:Xa}{K:Nat}(i:E.mode=md){O:PL}{c:N'}(J:Sl O (Xf c))(D:c.length<1000000){a rest d:N'}(h:km E a rest d):∀(j k:Nat),c.drop j=rest->j+rest.length=c.length->a.length<1000000->a.length<K->rest.length<k->
  ∃e,Xb E K 0 [5,12,13,14] x69_2 k ⟨K6 O a.length c.length j,[F9 a]⟩=some (.exit 0,⟨e,[F9 d]⟩)/\Xh e 5=some (.one (.own 0 1 0 a.length)):=by
 induction h with
 |nil a=>
  intro j k _ f _ _ q;obtain⟨k,rfl⟩:∃l,k=l+1:=⟨k-1,by omega⟩;simp only[Zr,Z0]at f;subst f;apply VO
  ·rw[Xb];simp only[Xo,Xr,reduceIte,Nat.reduceEqDiff,x69_2,Zv];rfl
  ·simp only[Xo,reduceIte,Nat.reduceEqDiff]
 |@cons a Q u d rest X t p h F=>
  intro j k B f P M q;obtain⟨k,rfl⟩:∃l,k=l+1:=⟨k-1,by omega⟩;simp only[Zi]at f q;obtain⟨A,v⟩:=Xi B;have g:j<c.length:=by omega
  have G:=fun(C:HF) (H:IntKind)=>J.idx (h:=C) (k:=H) (sz:=1) (XY A) rfl
  obtain⟨m,I⟩:=p.len;obtain⟨L,n,o,x,y,z⟩:=IW (K:=K) (N:=c.length) (j:=j) (O:=O) i t (by omega) p 0 K a rfl rfl (by omega) (by omega) (by omega);obtain⟨e,r,s⟩:=F (j+1) k v (by omega) (by omega) (by omega) (by omega);have b:=t.len;rw[Xt,m]at b;have w:Xe .i64 (.ofNat (j+1))=.ofNat (j+1):=wrap_i64 (by omega);rw[I]at r s;refine⟨e,?_,s⟩;rw[Xb];simp only[J9,m,List.take_zero,ZF]at n;rw[m]at o;simp(decide:=true)only[Xo,Xr,reduceIte,x69_2,g,G,b,n,o,x,y,z,w];exact r
theorem vI {B:Xs}(b:Std B){vs:N'}(o:vs.length<1000000):
  Ut B 120 [.one (.p (.Xn (Xf vs)))] [] (.one (.own 0 1 0 vs.length)) [F9 vs]:=by
 have a:=fun(h:HF)=>(Sl.Xn (es:=Xf vs)).chunks (h:=h)
 have g:vs.length*24<=lim:=by unfold lim;omega
 have i:vs.length<=9223372036854775807:=by omega
 have m:Uo false [.one (.p (.Xn (Xf vs))),.one (.p .Xq)]=some ⟨.one (.p (.bool false)),[],[],[]⟩:=rfl;have j:((Xf vs).map (·.map DL.p)).all (fun c=>decide (c.length=1))=true:=by
  rw[ZI];intro c f;simp only[Xf,ZM]at f;obtain⟨d,⟨e,n,rfl⟩,rfl⟩:=f;rfl
 have k:((Xf vs).map (·.map DL.p)).length=vs.length:=by rw[ZP,Xt]
 refine Ut.of (b.Wa _ _ rfl) (b.Xk.mono fun E K l=> ?_);simp only[Xo,Vx,Xr,reduceIte,Nat.reduceEqDiff,Nat.reduceLeDiff,x120,a,g,i,m,j,k,F9,pc]
theorem uH {B:Xs}(b:Std B){O:PL}{vs os out:N'}(g:Sl O (Xf os))(q:vs.length<100000)(m:os.length<100000)(h:XS B fun E _=>km E vs os out):Xu B 69 [.one (.Xn (Xf vs)),.one O] (.one (.Xn (Xf out))):=by
 have c:=vI b (vs:=vs) (by omega);refine Xu.of (b.Wa _ _ rfl) ((h.and (c.Xk.and (b.Xk.and (XS.ge (vs.length+os.length+1))))).mono fun E K ⟨d,i,a,p⟩=> ?_);obtain⟨o,e,k⟩:=IX (K:=K) a g (by omega) d 0 K rfl (by omega) (by omega) (by omega) (by omega);have f:=g.len;rw[Xt]at f;have r:=d.len;have j:vs.length<=out.length:=by omega
 have n:(pc (Xf out)).take vs.length=pc (Xf out):=WV (Xf out) (by rw[Xt];omega);have l:=fun h=>Ve 5 h (Xf out)
 simp only[K6]at e;simp(decide:=true)only[Xo,Xr,Vx,reduceIte,Nat.reduceAdd,x69,a,X4,f,i,e,k,n,l,Wm,Xt,j]
abbrev Kt (E:Xa)(lo p t1 t2 t3 t4:PL)(m:P')(b:Bool):Prop:=E.pure 61 [.one p,.one lo]=some (.X9 [.agg (t1::t2::t3::t4::mo m),.one (.bool b)])
theorem AG {B:Xs}(b:Std B){p:PL}{f:Z'}(e:PQ p f):Xu B 51 [.one p] (.one (.bool (decide (f.length=0)))):=by
 obtain⟨h,g,a⟩:=e;have c:=g.len;rw[a.length]at c;refine Xu.of (b.Wa _ _ rfl) (b.Xk.mono fun E K d=> ?_);simp only[Xo,Xr,reduceIte,Nat.reduceEqDiff,Nat.reduceLeDiff,x51,c]
abbrev Ls (L:PL)(n i:Nat):List (Nat×DV):=[(0,.one (.p L)),(1,.one (.p (.fn 51 []))),(7,LB n),(8,LB i)]
abbrev Ld (E:Xa)(b:Bool)(p:PL):Prop:=E.pure 51 [.one p]=some (.one (.bool b))
theorem Gn {E:Xa}{K:Nat}(a:E.mode=md){L:PL}{c:N'}(r:Sl L (Xf c))(y:c.length<1000000):∀(rest:N') (d:List Bool),XB (fun b p=>Ld E b p) d rest->∀(i k:Nat),c.drop i=rest->i+rest.length=c.length->rest.length<k->
  ∃e g,Xb E K 0 [0,1,7,8] x94_1 k ⟨Ls L c.length i,[]⟩=some (e,⟨g,[]⟩)/\((d.any id=false/\e=.exit 0)\/(d.any id=true/\e=.ret/\∃j,Xh g 4=some (LB j)))
 |[],_,.nil,i,k,_,hi,hk=>by
  obtain⟨k,rfl⟩:∃m,k=m+1:=⟨k-1,by omega⟩;simp only[Zr,Z0]at hi;subst hi;refine⟨.exit 0,?_⟩;apply VO
  ·rw[Xb];simp only[Xo,Xr,reduceIte,Nat.reduceEqDiff,x94_1,Zv];rfl
  ·exact .inl ⟨rfl,rfl⟩
 |p::rest,b::d,.cons h1 h,i,k,hd,hi,hk=>by
  obtain⟨k,rfl⟩:∃m,k=m+1:=⟨k-1,by omega⟩;simp only[Zi]at hi hk;obtain⟨w,s⟩:=Xi hd;have f:i<c.length:=by omega
  have q:=fun(x:HF) (z:IntKind)=>r.idx (h:=x) (k:=z) (sz:=1) (XY w) rfl
  have t:Xe .i64 (.ofNat (i+1))=.ofNat (i+1):=wrap_i64 (by omega);have n:∀(h:HF) (l:DL),Rc E h [.one (.p (.fn 51 [])),.one l]=VB E h 51 [.one l]:=fun h l=>rfl
  have o:∀(l:DL),XL E .Sd [.one (.p (.fn 51 [])),.one l]=Ts E 51:=fun l=>rfl
  have A:Xl E .Sd=false:=rfl;cases b with
  |true=>
   refine⟨.ret,?_⟩;apply VO
   ·rw[Xb];simp(decide:=true)only[Xo,Xr,reduceIte,x94_1,a,X4,f,q,h1,n,o];rfl
   ·exact .inr ⟨rfl,rfl,i,by simp only[Xo,reduceIte,Nat.reduceEqDiff]⟩
  |false=>
   obtain⟨e,g,u,v⟩:=Gn a r y rest d h (i+1) k s (by omega) (by omega);refine⟨e,g,?_,v⟩;rw[Xb];simp(decide:=true)only[Xo,Xr,reduceIte,x94_1,a,X4,f,q,h1,t,n,o];exact u
theorem kV {B:Xs}(c:Std B):∀{d:N'} {a:S'},VS d a->XS B fun E _=>XB (fun b p=>Ld E b p) (a.map fun f=>decide (f.length=0)) d
 |[],_,.nil=>XS.of fun _ _=>.nil
 |_::_,_::_,.cons h t=>((AG c h).Xk.and (kV c t)).mono fun _ _ ⟨e1,e2⟩=>.cons e1 e2
theorem o5 {B:Xs}(d:Std B){L:PL}{e:N'}{g:S'}(m:Sl L (Xf e))(s:VS e g)(x:e.length<100000):
  Xu B 52 [.one L,.one (.fn 51 [])] (.one (.bool ((g.map fun f=>decide (f.length=0)).any id))):=by
 have t:∃r,Xu B 94 [.one L,.one (.fn 51 [])] (.one (.int .i64 r))/\w9 (.ofNat 0) r=(g.map fun f=>decide (f.length=0)).any id:=by
  obtain⟨r,h,i⟩:=Xu.fE (p:=fun r=>∃z,r=.one (.int .i64 z)/\w9 (.ofNat 0) z=(g.map fun f=>decide (f.length=0)).any id) (d.Wa 94 _ rfl) (a:=[.one L,.one (.fn 51 [])]) (((kV d s).and (d.Xk.and (XS.ge (e.length+1)))).mono fun E K ⟨n,b,w⟩=>by
   obtain⟨v,u,l,c⟩:=Gn (K:=K) b m (by omega) e _ n 0 K rfl (by omega) (by omega);have k:=m.len;rw[Xt]at k;rcases c with⟨c,rfl⟩|⟨c,rfl,j,o⟩
   ·refine⟨_,?_,.negSucc 0,rfl,by rw[c];rfl⟩;simp only[Xo,Xr,reduceIte,Nat.reduceEqDiff,Nat.reduceLeDiff,Nat.reduceAdd,x94,k,l]
   ·refine⟨_,?_,.ofNat j,rfl,by rw[c];rfl⟩;simp only[Xo,Xr,reduceIte,Nat.reduceEqDiff,Nat.reduceLeDiff,Nat.reduceAdd,x94,k,l,o])
  obtain⟨z,rfl,q⟩:=i;exact⟨z,h,q⟩
 obtain⟨r,h,i⟩:=t;refine Xu.of (d.Wa _ _ rfl) ((h.Xk.and d.Xk).mono fun E K ⟨e1,b⟩=> ?_);rw[<-i];simp only[Xo,reduceIte,Nat.reduceEqDiff,Nat.reduceLeDiff,Nat.reduceAdd,Xr,x52,b,X4,e1]
structure tI (E:Xa)(G lo p q:PL)(i j n:Nat)(xs:N'):Prop where
 ex:∃s Q R a1 a2 a3 a4 b1 b2 b3 b4 x1 x2 x3 x4 y1 y2 y3 y4 z1 z2 z3 z4 U W M m m' l u w,m.length=8/\m'.length=8/\l.length=8/\u.length=8/\w.length=8/\
  E.pure 100 [.one p,.one q,.one lo]=some (.X9 [.one s,.one (LA 0)])/\
  E.pure 101 [.one s,.one G,.one lo]=some (.X9 [.one Q,.one R,.one (LA 0)])/\
  Kt E lo p a1 a2 a3 a4 m true/\Kt E lo q b1 b2 b3 b4 m' true/\
  E.pure 63 [.agg (mo m),.agg (mo m')]=some (.agg (mo l))/\
  E.pure 62 [.agg (mo l),.agg (mo m)]=some (.X9 [.agg (mo u),.one (.bool true)])/\
  E.pure 62 [.agg (mo l),.agg (mo m')]=some (.X9 [.agg (mo w),.one (.bool true)])/\
  E.pure 102 [.agg [a1,a2,a3,a4]]=some (.X9 [.agg [x1,x2,x3,x4],.one (LA 0)])/\
  E.pure 102 [.agg [b1,b2,b3,b4]]=some (.X9 [.agg [y1,y2,y3,y4],.one (LA 0)])/\
  E.pure 103 [.one (LA i),.one (LA n),.agg [x1,x2,x3,x4],.agg (mo u)]=some (.one U)/\
  E.pure 104 [.agg [y1,y2,y3,y4]]=some (.agg [z1,z2,z3,z4])/\
  E.pure 103 [.one (LA j),.one (LA n),.agg [z1,z2,z3,z4],.agg (mo w)]=some (.one W)/\
  E.pure 105 [.one Q]=some (.one M)/\
  E.pure 69 [.one U,.one (.Xn [[W],[M]])]=some (.one (.Xn (Xf xs)))
abbrev Gd (G lo p:PL)(L:DL)(n i j:Nat):List (Nat×DV):=[(0,.one (.p G)),(1,.one (.p lo)),(6,.one L),(7,LB i),(8,.one (.p p)),(9,LB j),(27,.one (.p G)),(28,LB n),(29,LB i)]
abbrev G4:P':=[0,1,6,7,8,9,27,28,29]
abbrev nP (v:Nat)(o:N'):Xx:=⟨false,v,1,pc (Xf o),false,30⟩
theorem iJ (a:N')(r:PL):pc (Xf a)++[[.p r]]=pc (Xf (a++[r])):=by simp[pc,Xf]
theorem KT {d e f:Type}{p q:d->e->f->Prop}{a:d}{b:e}{c:f}(h:p a b c)(k:q a b c):∃a b c,p a b c/\q a b c:=⟨a,b,c,h,k⟩
theorem G0 {E:Xa}{K k i j:Nat}(y:E.mode=md){G z p q:PL}{b C:N'}(S:Sl G (Xf b))(P:b[j]? =some q)(hl:b.length<1000000)(h:tI E G z p q i j b.length C)(H:V'){d v:Nat}{o:N'}(O:H[d]? =some (nP v o))(ho:o.length<1000000):
  ∃T,Xb E K 0 G4 x54_1 (k+1) ⟨Gd G z p (.own d v 0 o.length) b.length i j,H⟩=Xb E K 0 G4 x54_1 k ⟨Gd G z p (.own d (v+1) 0 (o++[PL.Xn (Xf C)]).length) b.length i (j+1),H.set d (nP (v+1) (o++[PL.Xn (Xf C)]))++T⟩:=by
 obtain⟨s,Q,R,a1,a2,a3,a4,b1,b2,b3,b4,x1,x2,x3,x4,y1,y2,y3,y4,z1,z2,z3,z4,U,W,M,m,m',l,u,w,m8,A,l8,u8,w8,h1,h2,D,F,I,J,N,h8,h9,c,g,e,n,r⟩:=h.ex;have t:j<b.length:=(Zf.mp P).1;have iq:=fun(hh:HF) (kd:IntKind)=>S.idx (h:=hh) (k:=kd) (sz:=1) (XY P) rfl
 have a:=S.len;rw[Xt]at a;have B:∀V:I',(PL.Xn V).scalar=false:=fun _=>rfl
 have X:Xe .i64 (.ofNat (j+1))=.ofNat (j+1):=wrap_i64 (by omega);have f:d<H.length:=(Zf.1 O).1;have Z:∀L:V',(H++L)[d]? =some (nP v o):=fun L=>by rw[ZA f];exact O
 have sd:∀(L:V') (x:Xx),(H++L).set d x=H.set d x++L:=fun L x=>List.set_append_left _ _ f
 have q2:(o.length+1)*24<=lim:=by unfold lim;omega
 have q3:o.length+1<=9223372036854775807:=by omega
 have k5:¬(H.length+5<=H.length):=by omega
 have k6:¬(H.length+6<=H.length):=by omega
 have e1:¬(H.length+7=d):=by omega
 have e2:¬(d=H.length+7):=by omega
 rw[Zm,ZO];obtain⟨c0,c1,c2,c3,c4,c5,c6,c7,rfl⟩:=eight m8;obtain⟨d0,d1,d2,d3,d4,d5,d6,d7,rfl⟩:=eight A;obtain⟨r0,r1,r2,r3,r4,r5,r6,r7,rfl⟩:=eight l8;obtain⟨f0,Y,f2,f3,f4,f5,f6,f7,rfl⟩:=eight u8;obtain⟨g0,g1,g2,g3,g4,g5,g6,g7,rfl⟩:=eight w8;simp only[Kt,mo,Zt,ZN]at D F I J N c e;apply Exists.intro
 ·rw[Xb];simp(decide:=true)only[Xo,Xr,VR,Vx,reduceIte,Nat.reduceEqDiff,Nat.reduceLeDiff,Nat.reduceAdd,x54_1,y,X4,t,iq,a,h1,h2,D,F,I,J,N,h8,h9,c,g,e,n,r,X,k5,k6,e1,e2,ZL,Z,sd,q2,q3,Wm,Xt,iJ,UC,TQ,WK,W8,Zq,Zm,Zw,B];rfl
theorem G3 {E:Xa}{K k i j:Nat}(r:E.mode=md){G t p q:PL}{b L:N'}(J:Sl G (Xf b))(I:b[j]? =some q)(hl:b.length<1000000)(h:tI E G t p q i j b.length L)(H:V'):
  ∃z d v,Xb E K 0 G4 x54_1 (k+1) ⟨Gd G t p (.p .Xq) b.length i j,H⟩=Xb E K 0 G4 x54_1 k ⟨Gd G t p (.own d v 0 1) b.length i (j+1),H++z⟩/\(H++z)[d]? =some (nP v [PL.Xn (Xf L)]):=by
 obtain⟨s,Q,R,a1,a2,a3,a4,b1,b2,b3,b4,x1,x2,x3,x4,y1,y2,y3,y4,z1,z2,z3,z4,U,W,M,m,m',l,u,w,m8,x,l8,u8,w8,S,T,A,B,C,D,F,V,X,c,f,e,g,n⟩:=h.ex;have o:j<b.length:=(Zf.mp I).1;have Z:=fun(Y:HF) (kd:IntKind)=>J.idx (h:=Y) (k:=kd) (sz:=1) (XY I) rfl
 have a:=J.len;rw[Xt]at a;have y:∀N:I',(PL.Xn N).scalar=false:=fun _=>rfl
 have O:Xe .i64 (.ofNat (j+1))=.ofNat (j+1):=wrap_i64 (by omega);have k5:¬(H.length+5<=H.length):=by omega
 have k6:¬(H.length+6<=H.length):=by omega
 obtain⟨c0,c1,c2,c3,c4,c5,c6,c7,rfl⟩:=eight m8;obtain⟨d0,d1,d2,d3,d4,d5,d6,d7,rfl⟩:=eight x;obtain⟨r0,r1,r2,r3,r4,r5,r6,r7,rfl⟩:=eight l8;obtain⟨f0,P,f2,f3,f4,f5,f6,f7,rfl⟩:=eight u8;obtain⟨g0,g1,g2,g3,g4,g5,g6,g7,rfl⟩:=eight w8;simp only[Kt,mo,Zt,ZN]at A B C D F c e;apply KT
 ·rw[Xb];simp(decide:=true)only[Xo,Xr,VR,Vx,reduceIte,Nat.reduceEqDiff,Nat.reduceLeDiff,Nat.reduceAdd,x54_1,r,X4,o,Z,a,S,T,A,B,C,D,F,V,X,c,f,e,g,n,O,WZ,k5,k6,UC,TQ,WK,W8,Zq,Zm,Zw,y];rfl
 ·rw[UC];rfl
abbrev ON (xss:I'):N':=xss.map fun xs=>.Xn (Xf xs)
def IP (H:V')(L:DL)(o:N'):Prop:=(L=.p .Xq/\o=[])\/∃d v,L=.own d v 0 o.length/\H[d]? =some (nP v o)
inductive Nh (E:Xa)(G lo p:PL)(i n:Nat):Nat->N'->I'->Prop
 |nil (j:Nat):Nh E G lo p i n j [] []
 |cons {j:Nat} {q:PL} {qs xs:N'} {xss:I'} (h:tI E G lo p q i j n xs) (t:Nh E G lo p i n (j+1) qs xss):Nh E G lo p i n j (q::qs) (xs::xss)
inductive er (E:Xa)(G lo:PL)(n:Nat):Nat->N'->I'->Prop
 |nil (i:Nat):er E G lo n i [] []
 |cons {i:Nat} {p:PL} {ps:N'} {x1 x2:I'} (h:Nh E G lo p i n (i+1) ps x1) (t:er E G lo n (i+1) ps x2):er E G lo n i (p::ps) (x1++x2)
theorem Nh.len {E:Xa}{G d p:PL}{i n j:Nat}{b:N'}{a:I'}(h:Nh E G d p i n j b a):a.length=b.length:=by
 induction h with
 |nil=>rfl
 |cons _ _ c=>simp[c]
theorem Bd {E:Xa}{K k i j:Nat}(c:E.mode=md){G f p q:PL}{a t o:N'}(s:Sl G (Xf a))(r:a[j]? =some q)(n:a.length<1000000)(h:tI E G f p q i j a.length t){H:V'}{L:DL}(x:IP H L o)(y:o.length<1000000):
  ∃g l,Xb E K 0 G4 x54_1 (k+1) ⟨Gd G f p L a.length i j,H⟩=Xb E K 0 G4 x54_1 k ⟨Gd G f p l a.length i (j+1),g⟩/\IP g l (o++[.Xn (Xf t)]):=by
 rcases x with⟨rfl,rfl⟩|⟨d,v,rfl,m⟩
 ·obtain⟨u,d,v,e,w⟩:=G3 (K:=K) (k:=k) c s r n h H;exact⟨_,_,e,.inr ⟨d,v,rfl,w⟩⟩
 ·obtain⟨u,e⟩:=G0 (K:=K) (k:=k) c s r n h H m y;have b:d<H.length:=(Zf.1 m).1;exact⟨_,_,e,.inr ⟨d,v+1,rfl,by rw[ZA (by simpa using b),Yv b]⟩⟩
theorem Jg {E:Xa}{K i:Nat}(s:E.mode=md){G u p:PL}{c:N'}(x:Sl G (Xf c))(I:c.length<1000000){j:Nat}{f:N'}{d:I'}(h:Nh E G u p i c.length j f d):∀(k:Nat) (H:V') (L:DL) (o:N'),IP H L o->c.drop j=f->j+f.length=c.length->o.length+f.length<1000000->f.length<k->
  ∃a g l,Xb E K 0 G4 x54_1 k ⟨Gd G u p L c.length i j,H⟩=some (.exit 2,⟨a,g⟩)/\IP g l (o++ON d)/\Xh a 0=some (.one (.p G))/\Xh a 1=some (.one (.p u))/\Xh a 6=some (.one l)/\Xh a 27=some (.one (.p G))/\Xh a 28=some (LB c.length)/\Xh a 29=some (LB i):=by
 induction h with
 |nil j=>
  intro k H L o n _ m _ w;obtain⟨k,rfl⟩:∃t,k=t+1:=⟨k-1,by omega⟩;simp only[Zr,Z0]at m;subst m;have b:=x.len;rw[Xt]at b;apply KT
  ·rw[Xb];simp only[Xo,Xr,reduceIte,Nat.reduceEqDiff,x54_1,b,Zv];rfl
  ·refine⟨by simpa using n,?_⟩;simp only[Xo,reduceIte,Nat.reduceEqDiff,and_self]
 |@cons j q f N d D h M=>
  intro k H L o n F m J w;obtain⟨k,rfl⟩:∃t,k=t+1:=⟨k-1,by omega⟩;simp only[Zi]at m w J;obtain⟨C,A⟩:=Xi F;obtain⟨y,z,e,r⟩:=Bd (K:=K) (k:=k) s x C I D n (by omega);rw[e];obtain⟨a,g,l,B,v⟩:=M k y z _ r A (by omega) (by simp only[Zm,Zi,Zr];omega) (by omega);rw[Zq]at v;exact⟨a,g,l,B,v⟩
abbrev K7 (G lo:PL)(L:DL)(n i:Nat):List (Nat×DV):=[(0,.one (.p G)),(1,.one (.p lo)),(6,.one L),(27,.one (.p G)),(28,LB n),(29,LB i)]
theorem Jh {E:Xa}{K:Nat}(m:E.mode=md){G u:PL}{a:N'}(w:Sl G (Xf a))(X:a.length<1000)(W:a.length<K){i:Nat}{b:N'}{c:I'}(h:er E G u a.length i b c):∀(k:Nat) (H:V') (L:DL) (o:N'),IP H L o->a.drop i=b->i+b.length=a.length->o.length+b.length*1000<1000000->b.length<k->
  ∃f d e,Xb E K 0 [0,1,6,27,28,29] x54_2 k ⟨K7 G u L a.length i,H⟩=some (.exit 0,⟨f,d⟩)/\IP d e (o++ON c)/\Xh f 6=some (.one e):=by
 induction h with
 |nil i=>
  intro k H L o j _ g _ t;obtain⟨k,rfl⟩:∃n,k=n+1:=⟨k-1,by omega⟩;simp only[Zr,Z0]at g;subst g;apply KT
  ·rw[Xb];simp only[Xo,Xr,reduceIte,Nat.reduceEqDiff,x54_2,Zv];rfl
  ·refine⟨by simpa using j,?_⟩;simp only[Xo,reduceIte,Nat.reduceEqDiff]
 |@cons i p b Z x2 s h Q=>
  intro k H L o j N g P t;obtain⟨k,rfl⟩:∃n,k=n+1:=⟨k-1,by omega⟩;simp only[Zi]at g t P;obtain⟨M,q⟩:=Xi N;have l:i<a.length:=by omega
  have R:=fun(O:HF) (S:IntKind)=>w.idx (h:=O) (k:=S) (sz:=1) (XY M) rfl
  have z:Xe .i64 (.ofNat (i+1))=.ofNat (i+1):=wrap_i64 (by omega);obtain⟨V,x,y,r,A,B,C,D,F,I,J⟩:=Jg (K:=K) m w (by omega) s K H L o j q (by omega) (by omega) (by omega);have Y:=s.len;obtain⟨f,d,e,T,v,U⟩:=Q k x y _ A q (by omega) (by simp only[Zm,ZP];omega) (by omega);simp only[Gd]at r;refine⟨f,d,e,?_,by rw[Zq,<-List.map_append]at v;exact v,U⟩;rw[Xb];simp(decide:=true)only[Xo,Xr,reduceIte,x54_2,l,R,z,r,B,C,D,F,I,J];exact T
theorem gX {B:Xs}(l:Std B){G i:PL}{c:N'}{b:I'}(m:Sl G (Xf c))(C:c.length<900)(h:XS B fun E _=>er E G i c.length 0 c b):∃L,Sl L (Xf (ON b))/\Xu B 54 [.one G,.one i] (.X9 [.one L,.one (LA 0)]):=by
 obtain⟨r,o,L,q,rfl⟩:=Xu.fE (p:=fun r=>∃L,Sl L (Xf (ON b))/\r=.X9 [.one L,.one (LA 0)]) (l.Wa 54 _ rfl) (a:=[.one G,.one i]) ((h.and (l.Xk.and (XS.ge (c.length+1)))).mono fun E K ⟨n,f,A⟩=>by
  obtain⟨z,x,y,e,j,k⟩:=Jh (K:=K) f m (by omega) (by omega) n K [] (.p .Xq) [] (.inl ⟨rfl,rfl⟩) rfl (by omega) (by simp only[Zr];omega) (by omega);have g:=m.len;rw[Xt]at g;simp only[K7]at e;rw[ZF]at j;rcases j with⟨rfl,u⟩|⟨d,v,rfl,s⟩
  ·refine⟨_,?_,.Xq,by rw[u];exact .nil,rfl⟩;simp(decide:=true)only[Xo,Xr,reduceIte,Nat.reduceAdd,x54,g,e,k]
  ·have w:(pc (Xf (ON b))).take (ON b).length=pc (Xf (ON b)):=WV (Xf (ON b)) (by rw[Xt];exact Ze _);have t:=fun h=>Ve 5 h (Xf (ON b))
   refine⟨_,?_,.Xn (Xf (ON b)),.Xn,rfl⟩;simp(decide:=true)only[Xo,Xr,reduceIte,Nat.reduceAdd,x54,g,e,k,s,w,t,Wm,Xt,Ze])
 exact⟨L,q,o⟩
theorem qI {B:Xs}(c:Std B){G a L:PL}(h:Xu B 50 [.one a] (.one (.bool true)))(i:Xu B 52 [.one G,.one (.fn 51 [])] (.one (.bool false)))(f:Xu B 53 [.one G,.one a] (.one (.bool true)))(g:Xu B 54 [.one G,.one a] (.X9 [.one L,.one (LA 0)])):Xu B 19 [.one G,.one a] (.X9 [.one L,.one (LA 0)]):=by
 refine Xu.of (c.Wa _ _ rfl) ((h.Xk.and (i.Xk.and (f.Xk.and (g.Xk.and c.Xk)))).mono fun E K ⟨e1,e2,d,e,b⟩=> ?_);simp(decide:=true)only[Xo,Xr,Vx,reduceIte,Nat.reduceAdd,x19,b,X4,e1,e2,d,e]
end Go.Proofs.YtidginchkjhobaaGreat
