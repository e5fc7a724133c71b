/- Package syzygy: vectors: minus, unit, position. -/
import Derived.Test.YtidginchkjhobaaGreatMap
set_option maxHeartbeats 16000000
set_option maxRecDepth 100000
namespace Go.Ev
open Go.Proofs.YtidginchkjhobaaGreat
abbrev Cj (cs:N'):Xx:=⟨false,0,1,pc (Xf cs),false,33⟩
theorem iE {a}{i}{x}:(pc (Xf a)).set i [.p x]=pc (Xf (a.set i x)):=by simp_all [pc,Xf]
theorem Q6 {cs:N'}{i:Nat}{p:PL}(h:cs[i]? =some p):(pc (Xf cs))[i]? =some [.p p]:=by simp_all [pc,Xf]
abbrev Mk (V:PL)(n i:Nat):List (Nat×DV):=[(3,.one (.own 0 0 0 n)),(9,La4 V),(10,La1 n),(11,La1 i)]
theorem Cz {E:Xa}{K k i:Nat}(d:E.mode=md){V p x:PL}{a b:N'}(q:Sl V (Xf a))(e:a[i]? =some p)(r:b.length=a.length)(s:a.length<1000000)(j:E.pure 67 [.one .Xp,.one p]=some (.one x)):
  Xb E K 0 [3,9,10,11] x105_1 (k+1) ⟨Mk V a.length i,[Cj b]⟩=Xb E K 0 [3,9,10,11] x105_1 k ⟨Mk V a.length (i+1),[Cj (b.set i x)]⟩:=by
 have c:i<a.length:=(Zg.mp e).1;have n:=fun(l:HF) (o:IntKind)=>q.idx (h:=l) (k:=o) (sz:=1) (XK e) rfl
 have f:Xd .i64 (.ofNat (i+1))=.ofNat (i+1):=wrap_i64 (by omega);obtain⟨y,m⟩:∃y,b[i]? =some y:=⟨_,Zd (by omega)⟩;have g:=Q6 m;rw[Xb];simp+decide only[Xo,Xs,Vv,reduceIte,x105_1,d,X3,c,n,j,f,g,iE]
theorem dX {b:Type}{a:List b}{i:Nat}{x:b}(h:i<a.length):(a.set i x).take (i+1)=a.take i++[x]:=by
 apply List.ext_getElem?
 grind
theorem KS {E:Xa}{K:Nat}(g:E.mode=md){V:PL}{b:N'}(t:Sl V (Xf b))(r:b.length<1000000){rest a:N'}(h:XE (fun p x=>E.pure 67 [.one .Xp,.one p]=some (.one x)) rest a):∀(i k:Nat) (c:N'),b.drop i=rest->i+rest.length=b.length->c.length=b.length->rest.length<k->
  ∃e,Xb E K 0 [3,9,10,11] x105_1 k ⟨Mk V b.length i,[Cj c]⟩=some (.exit 0,⟨e,[Cj (c.take i++a)]⟩)/\Xi e 3=some (.one (.own 0 0 0 b.length)):=by
 induction h with
 |nil=>
  intro i k c _ d f l;rcases k with _|k;omega;simp only[Zr,ZU]at d;subst d;rw[ZJ,Ze (by omega)];apply VW
  ·rw[Xb];simp only[Xo,Xs,reduceIte,Nat.reduceEqDiff,x105_1,Zx];rfl
  ·simp only[Xo,reduceIte,Nat.reduceEqDiff]
 |@cons p x rest a o h s=>
  intro i k c q d f l;rcases k with _|k;omega;simp only[Zj]at d l;obtain⟨n,m⟩:=Xh q;rw[Cz g t n f r o];obtain⟨e,u,v⟩:=s (i+1) k (c.set i x) m (by omega) (by simpa using f) (by omega)
  grind [dX]
theorem pH (n):List.replicate n [DL.p .Xp]=pc (Xf (List.replicate n .Xp)):=by
 simp[pc,Xf]
theorem tM {B}(f:Std B){V}{b a}(i:Sl V (Xf b))(s:b.length<100000)(h:XT B fun E _=>XE (fun p x=>E.pure 67 [.one .Xp,.one p]=some (.one x)) b a):Xv B 105 [.one V] (.one (.Xl (Xf a))):=by
 refine Xv.of (f.Wa _ _ rfl) ((h.and (f.Xk.and (XT.ge (b.length+1)))).mono fun E K ⟨d,c,r⟩=> ?_);obtain⟨q,e,m⟩:=KS (K:=K) c i (by omega) d 0 K (List.replicate b.length .Xp) rfl (by omega) (by simp) (by omega);have g:=i.len;rw[Xt]at g;simp only[Mk,List.take_zero,ZB]at e;have j:24*b.length<=lim:=by unfold lim;omega
 have k:b.length<=9223372036854775807:=by omega
 have t:=d.length;have l:b.length<=a.length:=by omega
 have o:(pc (Xf a)).take b.length=pc (Xf a):=WT (Xf a) (by rw[Xt];omega);have n:=fun h=>Vb 5 h (Xf a)
 simp+decide only[Xo,Xs,VD,reduceIte,x105,g,j,k,pH,e,m,o,n,WB,Xt,l]
theorem uE {n}{h}{l}{p}(b:XG (n+1) h l=some p):∀a i,Xw (Xw (XG (n+1) h)) ((pc (Xf a)).set i [l])=some (Xf (a.set i p))
 |[],_=>rfl
 |c::a,0=>by
  have:=Vb (n+1) h (Xf a)
  simp_all [pc,Xf,Xw]
 |c::a,i+1=>by
  have:=uE b a i;have e:XG (n+1) h (.p c)=some c:=rfl
  simp_all [pc,Xf,Xw]
theorem ET {n}{H}{id}{c}{ty}(h:H[id]? =some ⟨false,0,12,[c.map .p],false,ty⟩):XG (n+1) (Xj H) (.own id 0 0 1)=some (.Xl [c]):=by
 have e:Xj H id=some ⟨false,0,12,[c.map .p],false,ty⟩:=h;have:=Vb n (Xj H) [c];simp only[pc,Zt,ZF]at this;simp only[XG,e,Yw,Z7,List.take_succ_cons,List.take_zero,this];rfl
theorem iH {B:Xq}(e:Std B){i n:Nat}{a b c d:PL}{m:P'}(u:m.length=8)(t:i<n)(x:n<100000):
  Xv B 103 [.one (La0 i),.one (La0 n),.agg [a,b,c,d],.agg (mo m)] (.one (.Xl (Xf ((List.replicate n .Xp).set i (.Xl [a::b::c::d::mo m]))))):=by
 refine Xv.of (e.Wa _ _ rfl) (e.Xk.mono fun E K v=> ?_);have q:24*n<=lim:=by unfold lim;omega
 have r:n<=9223372036854775807:=by omega
 have s:=Q6 (cs:=List.replicate n PL.Xp) (i:=i) (p:=.Xp) (by grind);have w:∀l,((pc (Xf (List.replicate n PL.Xp))).set i l).take n=(pc (Xf (List.replicate n PL.Xp))).set i l:=fun l=>Ze (by simp_all [WB,Xt])
 obtain⟨f,e1,e2,g,h,j,k,o,rfl⟩:=eight u;simp+decide only[Xo,Xs,reduceIte,Nat.reduceAdd,x103,q,r,pH,t,s,mo,w,WB,Xt,Yi,YL,Zf];rw[uE (ET (c:=a::b::c::d::mo [f,e1,e2,g,h,j,k,o]) (ty:=75) rfl)];rfl
abbrev Mi (F V:PL)(n i:Nat):List (Nat×DV):=[(1,La4 F),(6,.one (.own 0 0 0 n)),(14,La4 V),(15,La1 n),(16,La1 i)]
abbrev H8 (E:Xa)(F:PL)(p x:PL):Prop:=E.pure 78 [.one F,.one p]=some (.Wd [.one x,.one (La0 0)])
theorem Cw {E:Xa}{K k i:Nat}(d:E.mode=md){F V p x:PL}{a b:N'}(q:Sl V (Xf a))(e:a[i]? =some p)(r:b.length=a.length)(s:a.length<1000000)(j:H8 E F p x):
  Xb E K 0 [1,6,14,15,16] x66_1 (k+1) ⟨Mi F V a.length i,[Cj b]⟩=Xb E K 0 [1,6,14,15,16] x66_1 k ⟨Mi F V a.length (i+1),[Cj (b.set i x)]⟩:=by
 have c:i<a.length:=(Zg.mp e).1;have n:=fun(l:HF) (o:IntKind)=>q.idx (h:=l) (k:=o) (sz:=1) (XK e) rfl
 have f:Xd .i64 (.ofNat (i+1))=.ofNat (i+1):=wrap_i64 (by omega);obtain⟨y,m⟩:∃y,b[i]? =some y:=⟨_,Zd (by omega)⟩;have g:=Q6 m;rw[Xb];simp+decide only[Xo,Xs,Vv,reduceIte,x66_1,d,X3,c,n,j,f,g,iE]
theorem KP {E:Xa}{K:Nat}(g:E.mode=md){F V:PL}{b:N'}(t:Sl V (Xf b))(r:b.length<1000000){rest a:N'}(h:XE (H8 E F) rest a):∀(i k:Nat) (c:N'),b.drop i=rest->i+rest.length=b.length->c.length=b.length->rest.length<k->
  ∃e,Xb E K 0 [1,6,14,15,16] x66_1 k ⟨Mi F V b.length i,[Cj c]⟩=some (.exit 0,⟨e,[Cj (c.take i++a)]⟩)/\Xi e 6=some (.one (.own 0 0 0 b.length)):=by
 induction h with
 |nil=>
  intro i k c _ d f l;rcases k with _|k;omega;simp only[Zr,ZU]at d;subst d;rw[ZJ,Ze (by omega)];apply VW
  ·rw[Xb];simp only[Xo,Xs,reduceIte,Nat.reduceEqDiff,x66_1,Zx];rfl
  ·simp only[Xo,reduceIte,Nat.reduceEqDiff]
 |@cons p x rest a o h s=>
  intro i k c q d f l;rcases k with _|k;omega;simp only[Zj]at d l;obtain⟨n,m⟩:=Xh q;rw[Cw g t n f r o];obtain⟨e,u,v⟩:=s (i+1) k (c.set i x) m (by omega) (by simpa using f) (by omega)
  grind [dX]
theorem sb {B}(f:Std B){F V}{b a}(i:Sl V (Xf b))(r:b.length<100000)(h:XT B fun E _=>XE (H8 E F) b a):Xv B 66 [.one V,.one F] (.Wd [.one (.Xl (Xf a)),.one (.bool true)]):=by
 refine Xv.of (f.Wa _ _ rfl) ((h.and (f.Xk.and (XT.ge (b.length+1)))).mono fun E K ⟨d,c,q⟩=> ?_);obtain⟨p,e,m⟩:=KP (K:=K) c i (by omega) d 0 K (List.replicate b.length .Xp) rfl (by omega) (by simp) (by omega);have g:=i.len;rw[Xt]at g;simp only[Mi,List.take_zero,ZB]at e;have j:24*b.length<=lim:=by unfold lim;omega
 have k:b.length<=9223372036854775807:=by omega
 have s:=d.length;have l:b.length<=a.length:=by omega
 have o:(pc (Xf a)).take b.length=pc (Xf a):=WT (Xf a) (by rw[Xt];omega);have n:=fun h=>Vb 5 h (Xf a)
 simp+decide only[Xo,Xs,VD,reduceIte,Nat.reduceAdd,x66,g,j,k,pH,e,m,o,n,WB,Xt,l]
abbrev Ie (cs:N'):Xx:=⟨false,1,1,pc (Xf cs),false,33⟩
abbrev Mf (E:Xa)(c x o:PL):Prop:=E.pure 68 [.one c,.one x]=some (.one o)
inductive vB (E:Xa):N'->N'->N'->Prop
 |nil:vB E [] [] []
 |cons {c x o:PL} {cs xs os:N'} (h:Mf E c x o) (t:vB E cs xs os):vB E (c::cs) (x::xs) (o::os)
theorem vB.len {E}{a c b}(h:vB E a c b):c.length=a.length/\b.length=a.length:=by
 induction h with
 |nil=>exact⟨rfl,rfl⟩
 |cons _ _ d=>simp[d]
inductive lQ (E:Xa):N'->N'->N'->Prop
 |nil (cs:N'):lQ E cs [] cs
 |cons {cs xs cs1 out rest:N'} {X:PL} (sx:Sl X (Xf xs)) (h:vB E cs xs cs1) (t:lQ E cs1 rest out):lQ E cs (X::rest) out
theorem lQ.len {E}{b rest a}(h:lQ E b rest a):a.length=b.length:=by
 induction h with
 |nil=>rfl
 |cons _ h _ c=>rw[c,h.len.2]
abbrev Mj (O X:PL)(n N j i:Nat):List (Nat×DV):=[(5,.one (.own 0 1 0 n)),(12,La4 O),(13,La1 N),(14,La1 j),(18,La4 X),(19,La1 n),(20,La1 i)]
theorem Cy {E:Xa}{K k i N j:Nat}(e:E.mode=md){O X c p x:PL}{a b:N'}(s:Sl X (Xf a))(f:a[i]? =some p)(o:b[i]? =some c)(t:b.length=a.length)(u:a.length<1000000)(m:Mf E c p x):
  Xb E K 0 [5,12,13,14,18,19,20] x69_1 (k+1) ⟨Mj O X a.length N j i,[Ie b]⟩=Xb E K 0 [5,12,13,14,18,19,20] x69_1 k ⟨Mj O X a.length N j (i+1),[Ie (b.set i x)]⟩:=by
 have d:i<a.length:=(Zg.mp f).1;have q:=fun(n:HF) (r:IntKind)=>s.idx (h:=n) (k:=r) (sz:=1) (XK f) rfl
 have g:Xd .i64 (.ofNat (i+1))=.ofNat (i+1):=wrap_i64 (by omega);have l:=Q6 o;rw[Xb];simp+decide only[Xo,Xs,Vv,reduceIte,x69_1,e,X3,d,q,m,g,l,iE]
theorem KQ {E:Xa}{K N j:Nat}(n:E.mode=md){O X:PL}{d:N'}(z:Sl X (Xf d))(w:d.length<1000000){g rest a:N'}(h:vB E g rest a):∀(i k:Nat) (b:N'),d.drop i=rest->b.drop i=g->i+rest.length=d.length->b.length=d.length->rest.length<k->
  ∃e,Xb E K 0 [5,12,13,14,18,19,20] x69_1 k ⟨Mj O X d.length N j i,[Ie b]⟩=some (.exit 2,⟨e,[Ie (b.take i++a)]⟩)/\Xi e 5=some (.one (.own 0 1 0 d.length))/\Xi e 12=some (La4 O)/\Xi e 13=some (La1 N)/\Xi e 14=some (La1 j):=by
 induction h with
 |nil=>
  intro i k b _ _ f l q;rcases k with _|k;omega;simp only[Zr,ZU]at f;subst f;rw[ZJ,Ze (by omega)];apply VW
  ·rw[Xb];simp only[Xo,Xs,reduceIte,Nat.reduceEqDiff,x69_1,Zx];rfl
  ·simp only[Xo,reduceIte,Nat.reduceEqDiff,and_self]
 |@cons c p x g rest a u h y=>
  intro i k b v m f l q;rcases k with _|k;omega;simp only[Zj]at f q;obtain⟨s,r⟩:=Xh v;obtain⟨t,A⟩:=Xh m;rw[Cy n z s t l w u];obtain⟨e,B,C⟩:=y (i+1) k (b.set i x) r (by grind [List.drop_set_of_lt]) (by omega) (by simpa using l) (by omega)
  grind [dX]
abbrev YO (O:PL)(n N j:Nat):List (Nat×DV):=[(5,.one (.own 0 1 0 n)),(12,La4 O),(13,La1 N),(14,La1 j)]
theorem KR {E}{K}(i:E.mode=md){O}{c}(J:Sl O (Xf c))(D:c.length<1000000){a rest d}(h:lQ E a rest d):∀j k,c.drop j=rest->j+rest.length=c.length->a.length<1000000->a.length<K->rest.length<k->
  ∃e,Xb E K 0 [5,12,13,14] x69_2 k ⟨YO O a.length c.length j,[Ie a]⟩=some (.exit 0,⟨e,[Ie d]⟩)/\Xi e 5=some (.one (.own 0 1 0 a.length)):=by
 induction h with
 |nil a=>
  intro j k _ f _ _ q;rcases k with _|k;omega;simp only[Zr,ZU]at f;subst f;apply VW
  ·rw[Xb];simp only[Xo,Xs,reduceIte,Nat.reduceEqDiff,x69_2,Zx];rfl
  ·simp only[Xo,reduceIte,Nat.reduceEqDiff]
 |@cons a Q u d rest X t p h F=>
  intro j k B f P M q;rcases k with _|k;omega;simp only[Zj]at f q;obtain⟨A,v⟩:=Xh B;have g:j<c.length:=by omega
  have G:=fun(C:HF) (H:IntKind)=>J.idx (h:=C) (k:=H) (sz:=1) (XK A) rfl
  obtain⟨m,I⟩:=p.len;obtain⟨L,n,o,x,y,z⟩:=KQ (K:=K) (N:=c.length) (j:=j) (O:=O) i t (by omega) p 0 K a rfl rfl (by omega) (by omega) (by omega);obtain⟨e,r,s⟩:=F (j+1) k v (by omega) (by omega) (by omega) (by omega);have b:=t.len;rw[Xt,m]at b;have w:Xd .i64 (.ofNat (j+1))=.ofNat (j+1):=wrap_i64 (by omega);rw[I]at r s;refine⟨e,?_,s⟩;rw[Xb];simp only[Mj,m,List.take_zero,ZB]at n;rw[m]at o;simp+decide only[Xo,Xs,reduceIte,x69_2,g,G,b,n,o,x,y,z,w];exact r
theorem xL {B}(b:Std B){vs}(k:vs.length<1000000):
  Uu B 120 [La4 (.Xl (Xf vs))] [] (.one (.own 0 1 0 vs.length)) [Ie vs]:=by
 have a:=fun(h:HF)=>(Sl.Xl (es:=Xf vs)).chunks (h:=h)
 have d:vs.length*24<=lim:=by unfold lim;omega
 have e:vs.length<=9223372036854775807:=by omega
 have j:Uz false [La4 (.Xl (Xf vs)),La4 .Xp]=some ⟨La4 (.bool false),[],[],[]⟩:=rfl;have f:((Xf vs).map (·.map DL.p)).all (fun c=>decide (c.length=1))=true:=by
  grind [Xf]
 have g:((Xf vs).map (·.map DL.p)).length=vs.length:=by grind [Xt]
 refine Uu.of (b.Wa _ _ rfl) (b.Xk.mono fun E K i=> ?_);simp only[Xo,Vv,Xs,reduceIte,Nat.reduceEqDiff,Nat.reduceLeDiff,x120,a,d,e,j,f,g,Ie,pc]
theorem jz {B}(b:Std B){O}{vs os out}(g:Sl O (Xf os))(q:vs.length<100000)(m:os.length<100000)(h:XT B fun E _=>lQ E vs os out):Xv B 69 [.one (.Xl (Xf vs)),.one O] (.one (.Xl (Xf out))):=by
 have c:=xL b (vs:=vs) (by omega);refine Xv.of (b.Wa _ _ rfl) ((h.and (c.Xk.and (b.Xk.and (XT.ge (vs.length+os.length+1))))).mono fun E K ⟨d,i,a,p⟩=> ?_);obtain⟨o,e,k⟩:=KR (K:=K) a g (by omega) d 0 K rfl (by omega) (by omega) (by omega) (by omega);have f:=g.len;rw[Xt]at f;have r:=d.len;have j:vs.length<=out.length:=by omega
 have n:(pc (Xf out)).take vs.length=pc (Xf out):=WT (Xf out) (by rw[Xt];omega);have l:=fun h=>Vb 5 h (Xf out)
 simp only[YO]at e;simp+decide only[Xo,Xs,Vv,reduceIte,Nat.reduceAdd,x69,a,X3,f,i,e,k,n,l,WB,Xt,j]
abbrev F4 (c:N')(m:P'):Xx:=⟨false,0,12,[c.map .p++Xu m],false,75⟩
abbrev IW (G lo V:PL)(i j:Int)(n k kk a b:Nat):List (Nat×DV):=[(1,La4 G),(2,La4 lo),(8,.one (.ptr 0 0 0 0)),(9,La4 (.int .i64 i)),(10,La4 (.int .i64 j)),(11,.one (.ptr 1 0 0 0)),(12,La1 kk),(14,.one (.ptr a 0 0 0)),(16,.one (.ptr b 0 0 0)),(20,La4 V),(21,La1 n),(22,La1 k)]
theorem rZ {E}{K k n q kk}{G lo V c1 c2 c3 c4 d1 d2 d3 d4}{i j}{m s}(d:XA m)(e:XA s)(P):
  ∃a,Xb E K 0 [1,2,8,9,10,11,12,14,16,20,21,22,44] x60_1 (k+9) ⟨IW G lo V i j n q kk P.length (P.length+1)++[(44,La1 0)],P++[F4 [c1,c2,c3,c4] m,F4 [d1,d2,d3,d4] s]⟩=some (.exit 2,⟨a,P++[F4 [c1,c2,c3,c4] (Xg m s),F4 [d1,d2,d3,d4] s]⟩)/\
  Xi a 1=some (La4 G)/\Xi a 2=some (La4 lo)/\Xi a 8=some (.one (.ptr 0 0 0 0))/\Xi a 9=some (La4 (.int .i64 i))/\Xi a 10=some (La4 (.int .i64 j))/\Xi a 11=some (.one (.ptr 1 0 0 0))/\Xi a 12=some (La1 kk)/\Xi a 14=some (.one (.ptr P.length 0 0 0))/\Xi a 20=some (La4 V)/\Xi a 21=some (La1 n)/\Xi a 22=some (La1 q):=by
 obtain⟨f,b⟩:=d;obtain⟨J,c⟩:=e;obtain⟨L,M,N,O,Q,R,S,T,rfl⟩:=eight f;obtain⟨U,W,X,Y,Z,b5,b6,b7,rfl⟩:=eight J;simp only[Zk,ZQ,or_false,forall_eq_or_imp,forall_eq]at b c;obtain⟨g,h,l,o,r,t,u,v⟩:=b;obtain⟨z,A,B,C,D,F,H,I⟩:=c;have w:∀{x y:Nat},x<=65535->y<=65535->Xd .i64 (.ofNat (x+y))=.ofNat (x+y):=fun hx hy=>wrap_i64 (by omega)
 apply VW
 ·simp+decide only[Xb,Xo,Xs,VD,reduceIte,Nat.reduceEqDiff,Nat.reduceAdd,x60_1,IW,F4,Xu,VM,Wk,Wp,Zw,Z6,w1,w g z,w h A,w l B,w o C,w r D,w t F,w u H,w v I];rfl
 ·simp only[Xo,reduceIte,Nat.reduceEqDiff,and_self]
abbrev yd (G lo V:PL)(i j:Int)(n k:Nat):List (Nat×DV):=[(1,La4 G),(2,La4 lo),(8,.one (.ptr 0 0 0 0)),(9,La4 (.int .i64 i)),(10,La4 (.int .i64 j)),(11,.one (.ptr 1 0 0 0)),(20,La4 V),(21,La1 n),(22,La1 k)]
abbrev Ac:P':=[1,2,8,9,10,11,20,21,22]
def Oj (o:M')(i j:Int)(tp:P')(k:Nat)(m:P'):Int×Int×P':=
 if i=.negSucc 0 then(.ofNat k,.negSucc 0,m)
 else if WY o m tp=.ofNat 1 then(.ofNat k,.negSucc 0,m)
 else if WY o m tp=.ofNat 0 then(if j=.negSucc 0 then(i,.ofNat k,tp)else(i,j,tp))
 else(i,j,tp)
abbrev bH (E:Xa)(lo p t1 t2 t3 t4:PL)(m:P')(b:Bool):Prop:=E.pure 61 [.one p,.one lo]=some (.Wd [.agg (t1::t2::t3::t4::mo m),.one (.bool b)])
theorem Gh {E}{K k a}(d:E.mode=md){G e V p w x y z}{b}(v:Sl V (Xf b))(g:b[a]? =some p)(L:b.length<1000000){i j}{m l}(u:m.length=8)(q:bH E e p w x y z m false)(R)(f):
  ∃n,Xb E K 0 Ac x60_2 (k+1) ⟨yd G e V i j b.length a,R::dJ l::f⟩=Xb E K 0 Ac x60_2 k ⟨yd G e V i j b.length (a+1),R::dJ l::(f++n)⟩:=by
 have c:a<b.length:=(Zg.mp g).1;have s:=fun(r:HF) (t:IntKind)=>v.idx (h:=r) (k:=t) (sz:=1) (XK g) rfl
 have o:Xd .i64 (.ofNat (a+1))=.ofNat (a+1):=wrap_i64 (by omega);obtain⟨A,B,C,D,F,H,I,J,rfl⟩:=eight u;apply Exists.intro;rw[Xb];simp+decide only[Xo,Xs,Vv,reduceIte,Nat.reduceLeDiff,Nat.reduceAdd,x60_2,d,X3,c,s,q,o,mo,Wk,Wp,Zn];rfl
theorem CD {E}{K k kk}(l:E.mode=md){G lo V p q D F H I z A B C}{a v}(sv:Sl V (Xf a))(sg:Sl G (Xf v))(x:a[kk]? =some p)(Y:v[kk]? =some q)(hl:a.length<1000000){j}{m s r}(w:XA m)(y:XA s)(Z:r.length=8)(W:bH E lo p D F H I m true){b}(X:bH E lo q z A B C s b)(R)(c):
  ∃J,Xb E (K+9) 0 Ac x60_2 (k+1) ⟨yd G lo V (.negSucc 0) (j) a.length kk,R::dJ r::c⟩=Xb E (K+9) 0 Ac x60_2 k ⟨yd G lo V (.ofNat kk) (.negSucc 0) a.length (kk+1),R::dJ (Xg m s)::(c++J)⟩:=by
 have g:kk<a.length:=(Zg.mp x).1;have ip:=fun(f:HF) (o:IntKind)=>sv.idx (h:=f) (k:=o) (sz:=1) (XK x) rfl
 have iq:=fun(f:HF) (o:IntKind)=>sg.idx (h:=f) (k:=o) (sz:=1) (XK Y) rfl
 have L:Xd .i64 (.ofNat (kk+1))=.ofNat (kk+1):=wrap_i64 (by omega);obtain⟨T',t,M,N,O,P,Q,S,T,u,U,d,e⟩:=rZ (E:=E) (K:=K+9) (k:=K) (n:=a.length) (q:=kk) (kk:=kk) (G:=G) (lo:=lo) (V:=V) (c1:=D) (c2:=F) (c3:=H) (c4:=I) (d1:=z) (d2:=A) (d3:=B) (d4:=C) (i:=.negSucc 0) (j:=j) w y (R::dJ r::c);obtain⟨a0,a1,a2,a3,a4,a5,a6,a7,rfl⟩:=eight w.1;obtain⟨b0,b1,b2,b3,b4,b5,b6,b7,rfl⟩:=eight y.1;obtain⟨e0,e1,e2,e3,e4,e5,e6,e7,rfl⟩:=eight Z;simp only[IW,F4,Xu,Zt,ZF,ZD,ZB,Zj,Xg,Zz,ZL]at t u;apply Exists.intro;rw[Xb];simp+decide only[Xo,Xs,VD,Vv,reduceIte,Nat.reduceEqDiff,Nat.reduceLeDiff,Nat.reduceAdd,x60_2,l,X3,g,ip,iq,W,X,L,mo,Xu,Xg,Zz,ZL,VM,V4,Wk,Wp,Zp,Zn,Zw,t,M,N,O,P,Q,S,T,u,U,d,e];rfl
theorem K8 {E}{K k kk}(r:E.mode=md){G lo V p q H I J L B C D F}{c w}(sv:Sl V (Xf c))(sg:Sl G (Xf w))(z:c[kk]? =some p)(hq:w[kk]? =some q)(hl:c.length<1000000){a}{j}{m s d}(y:XA m)(A:XA s)(ht:d.length=8)(Y:bH E lo p H I J L m true){b}(Z:bH E lo q B C D F s b)(x:E.pure 114 [.one lo,.agg (mo (Xg m s)),.agg (mo d)]=some (.one (La0 1)))(R)(e):
  ∃M,Xb E (K+9) 0 Ac x60_2 (k+1) ⟨yd G lo V (.ofNat a) (j) c.length kk,R::dJ d::e⟩=Xb E (K+9) 0 Ac x60_2 k ⟨yd G lo V (.ofNat kk) (.negSucc 0) c.length (kk+1),R::dJ (Xg m s)::(e++M)⟩:=by
 have o:kk<c.length:=(Zg.mp z).1;have ip:=fun(l:HF) (t:IntKind)=>sv.idx (h:=l) (k:=t) (sz:=1) (XK z) rfl
 have iq:=fun(l:HF) (t:IntKind)=>sg.idx (h:=l) (k:=t) (sz:=1) (XK hq) rfl
 have N:Xd .i64 (.ofNat (kk+1))=.ofNat (kk+1):=wrap_i64 (by omega);obtain⟨T',u,O,P,Q,S,T,U,W,v,X,f,g⟩:=rZ (E:=E) (K:=K+9) (k:=K) (n:=c.length) (q:=kk) (kk:=kk) (G:=G) (lo:=lo) (V:=V) (c1:=H) (c2:=I) (c3:=J) (c4:=L) (d1:=B) (d2:=C) (d3:=D) (d4:=F) (i:=.ofNat a) (j:=j) y A (R::dJ d::e);obtain⟨a0,a1,a2,a3,a4,a5,a6,a7,rfl⟩:=eight y.1;obtain⟨b0,b1,b2,b3,b4,b5,b6,b7,rfl⟩:=eight A.1;obtain⟨e0,e1,e2,e3,e4,e5,e6,e7,rfl⟩:=eight ht;simp only[IW,F4,Xu,Zt,ZF,ZD,ZB,Zj,Xg,Zz,ZL]at u v;simp only[mo,Xg,Zz,ZL,Zt,ZF]at x;apply Exists.intro;rw[Xb];simp+decide only[Xo,Xs,VD,Vv,reduceIte,Nat.reduceEqDiff,Nat.reduceLeDiff,Nat.reduceAdd,x60_2,r,X3,o,ip,iq,Y,Z,x,N,mo,Xu,Xg,Zz,ZL,VM,V4,Wk,Wp,Zp,Zn,Zw,u,O,P,Q,S,T,U,W,v,X,f,g];rfl
theorem K7 {E}{K k kk}(r:E.mode=md){G lo V p q H I J L B C D F}{c w}(sv:Sl V (Xf c))(sg:Sl G (Xf w))(z:c[kk]? =some p)(hq:w[kk]? =some q)(hl:c.length<1000000){a}{j}{m s d}(y:XA m)(A:XA s)(ht:d.length=8)(Y:bH E lo p H I J L m true){b}(Z:bH E lo q B C D F s b)(x:E.pure 114 [.one lo,.agg (mo (Xg m s)),.agg (mo d)]=some (.one (.int .i64 (.negSucc 0))))(R)(e):
  ∃M,Xb E (K+9) 0 Ac x60_2 (k+1) ⟨yd G lo V (.ofNat a) (j) c.length kk,R::dJ d::e⟩=Xb E (K+9) 0 Ac x60_2 k ⟨yd G lo V (.ofNat a) (j) c.length (kk+1),R::dJ (d)::(e++M)⟩:=by
 have o:kk<c.length:=(Zg.mp z).1;have ip:=fun(l:HF) (t:IntKind)=>sv.idx (h:=l) (k:=t) (sz:=1) (XK z) rfl
 have iq:=fun(l:HF) (t:IntKind)=>sg.idx (h:=l) (k:=t) (sz:=1) (XK hq) rfl
 have N:Xd .i64 (.ofNat (kk+1))=.ofNat (kk+1):=wrap_i64 (by omega);obtain⟨T',u,O,P,Q,S,T,U,W,v,X,f,g⟩:=rZ (E:=E) (K:=K+9) (k:=K) (n:=c.length) (q:=kk) (kk:=kk) (G:=G) (lo:=lo) (V:=V) (c1:=H) (c2:=I) (c3:=J) (c4:=L) (d1:=B) (d2:=C) (d3:=D) (d4:=F) (i:=.ofNat a) (j:=j) y A (R::dJ d::e);obtain⟨a0,a1,a2,a3,a4,a5,a6,a7,rfl⟩:=eight y.1;obtain⟨b0,b1,b2,b3,b4,b5,b6,b7,rfl⟩:=eight A.1;obtain⟨e0,e1,e2,e3,e4,e5,e6,e7,rfl⟩:=eight ht;simp only[IW,F4,Xu,Zt,ZF,ZD,ZB,Zj,Xg,Zz,ZL]at u v;simp only[mo,Xg,Zz,ZL,Zt,ZF]at x;apply Exists.intro;rw[Xb];simp+decide only[Xo,Xs,Vv,reduceIte,Nat.reduceAdd,x60_2,r,X3,o,ip,iq,Y,Z,x,N,mo,Xu,VM,V4,Wk,Wp,Zp,Zn,Zw,u,O,P,Q,S,T,U,W,v,X,f,g];rfl
theorem La {E}{K k kk}(r:E.mode=md){G lo V p q H I J L B C D F}{c w}(sv:Sl V (Xf c))(sg:Sl G (Xf w))(z:c[kk]? =some p)(hq:w[kk]? =some q)(hl:c.length<1000000){a}{m s d}(y:XA m)(A:XA s)(ht:d.length=8)(Y:bH E lo p H I J L m true){b}(Z:bH E lo q B C D F s b)(x:E.pure 114 [.one lo,.agg (mo (Xg m s)),.agg (mo d)]=some (.one (La0 0)))(R)(e):
  ∃M,Xb E (K+9) 0 Ac x60_2 (k+1) ⟨yd G lo V (.ofNat a) (.negSucc 0) c.length kk,R::dJ d::e⟩=Xb E (K+9) 0 Ac x60_2 k ⟨yd G lo V (.ofNat a) (.ofNat kk) c.length (kk+1),R::dJ (d)::(e++M)⟩:=by
 have o:kk<c.length:=(Zg.mp z).1;have ip:=fun(l:HF) (t:IntKind)=>sv.idx (h:=l) (k:=t) (sz:=1) (XK z) rfl
 have iq:=fun(l:HF) (t:IntKind)=>sg.idx (h:=l) (k:=t) (sz:=1) (XK hq) rfl
 have N:Xd .i64 (.ofNat (kk+1))=.ofNat (kk+1):=wrap_i64 (by omega);obtain⟨T',u,O,P,Q,S,T,U,W,v,X,f,g⟩:=rZ (E:=E) (K:=K+9) (k:=K) (n:=c.length) (q:=kk) (kk:=kk) (G:=G) (lo:=lo) (V:=V) (c1:=H) (c2:=I) (c3:=J) (c4:=L) (d1:=B) (d2:=C) (d3:=D) (d4:=F) (i:=.ofNat a) (j:=.negSucc 0) y A (R::dJ d::e);obtain⟨a0,a1,a2,a3,a4,a5,a6,a7,rfl⟩:=eight y.1;obtain⟨b0,b1,b2,b3,b4,b5,b6,b7,rfl⟩:=eight A.1;obtain⟨e0,e1,e2,e3,e4,e5,e6,e7,rfl⟩:=eight ht;simp only[IW,F4,Xu,Zt,ZF,ZD,ZB,Zj,Xg,Zz,ZL]at u v;simp only[mo,Xg,Zz,ZL,Zt,ZF]at x;apply Exists.intro;rw[Xb];simp+decide only[Xo,Xs,Vv,reduceIte,Nat.reduceAdd,x60_2,r,X3,o,ip,iq,Y,Z,x,N,mo,Xu,VM,V4,Wk,Wp,Zp,Zn,Zw,u,O,P,Q,S,T,U,W,v,X,f,g];rfl
theorem IV {E}{K k kk}(t:E.mode=md){G lo V p q I J L M C D F H}{d x}(sv:Sl V (Xf d))(sg:Sl G (Xf x))(A:d[kk]? =some p)(hq:x[kk]? =some q)(hl:d.length<1000000){a c}{m s e}(z:XA m)(B:XA s)(ht:e.length=8)(Z:bH E lo p I J L M m true){b}(h2:bH E lo q C D F H s b)(y:E.pure 114 [.one lo,.agg (mo (Xg m s)),.agg (mo e)]=some (.one (La0 0)))(R)(f):
  ∃N,Xb E (K+9) 0 Ac x60_2 (k+1) ⟨yd G lo V (.ofNat a) (.ofNat c) d.length kk,R::dJ e::f⟩=Xb E (K+9) 0 Ac x60_2 k ⟨yd G lo V (.ofNat a) (.ofNat c) d.length (kk+1),R::dJ (e)::(f++N)⟩:=by
 have r:kk<d.length:=(Zg.mp A).1;have ip:=fun(o:HF) (u:IntKind)=>sv.idx (h:=o) (k:=u) (sz:=1) (XK A) rfl
 have iq:=fun(o:HF) (u:IntKind)=>sg.idx (h:=o) (k:=u) (sz:=1) (XK hq) rfl
 have O:Xd .i64 (.ofNat (kk+1))=.ofNat (kk+1):=wrap_i64 (by omega);obtain⟨T',v,P,Q,S,T,U,W,X,w,Y,g,l⟩:=rZ (E:=E) (K:=K+9) (k:=K) (n:=d.length) (q:=kk) (kk:=kk) (G:=G) (lo:=lo) (V:=V) (c1:=I) (c2:=J) (c3:=L) (c4:=M) (d1:=C) (d2:=D) (d3:=F) (d4:=H) (i:=.ofNat a) (j:=.ofNat c) z B (R::dJ e::f);obtain⟨a0,a1,a2,a3,a4,a5,a6,a7,rfl⟩:=eight z.1;obtain⟨b0,b1,b2,b3,b4,b5,b6,b7,rfl⟩:=eight B.1;obtain⟨e0,e1,e2,e3,e4,e5,e6,e7,rfl⟩:=eight ht;simp only[IW,F4,Xu,Zt,ZF,ZD,ZB,Zj,Xg,Zz,ZL]at v w;simp only[mo,Xg,Zz,ZL,Zt,ZF]at y;apply Exists.intro;rw[Xb];simp+decide only[Xo,Xs,Vv,reduceIte,Nat.reduceAdd,x60_2,t,X3,r,ip,iq,Z,h2,y,O,mo,Xu,VM,V4,Wk,Wp,Zp,Zn,Zw,Nat.not_lt_zero,v,P,Q,S,T,U,W,X,w,Y,g,l];rfl
inductive aB (E:Xa)(lo:PL):Nat->Int->Int->P'->N'->N'->Int->Int->P'->Prop
 |nil (k:Nat) (i j:Int) (tp:P'):aB E lo k i j tp [] [] i j tp
 |zero {k:Nat} {i j i' j':Int} {tp t' m:P'} {p q t1 t2 t3 t4:PL} {vs gs:N'} (m8:m.length=8) (h1:bH E lo p t1 t2 t3 t4 m false) (h:aB E lo (k+1) i j tp vs gs i' j' t'):aB E lo k i j tp (p::vs) (q::gs) i' j' t'
 |first{k:Nat} {j i' j':Int} {tp t' m s:P'} {p q t1 t2 t3 t4 s1 s2 s3 s4:PL} {b:Bool} {vs gs:N'} (hm:XA m) (hs:XA s) (h1:bH E lo p t1 t2 t3 t4 m true) (h2:bH E lo q s1 s2 s3 s4 s b) (h:aB E lo (k+1) (.ofNat k) (.negSucc 0) (Xg m s) vs gs i' j' t'):aB E lo k (.negSucc 0) j tp (p::vs) (q::gs) i' j' t'
 |gt {k a:Nat} {j i' j':Int} {tp t' m s:P'} {p q t1 t2 t3 t4 s1 s2 s3 s4:PL} {b:Bool} {vs gs:N'} (hm:XA m) (hs:XA s) (h1:bH E lo p t1 t2 t3 t4 m true) (h2:bH E lo q s1 s2 s3 s4 s b) (h3:E.pure 114 [.one lo,.agg (mo (Xg m s)),.agg (mo tp)]=some (.one (La0 1))) (h:aB E lo (k+1) (.ofNat k) (.negSucc 0) (Xg m s) vs gs i' j' t'):aB E lo k (.ofNat a) j tp (p::vs) (q::gs) i' j' t'
 |lt {k a:Nat} {j i' j':Int} {tp t' m s:P'} {p q t1 t2 t3 t4 s1 s2 s3 s4:PL} {b:Bool} {vs gs:N'} (hm:XA m) (hs:XA s) (h1:bH E lo p t1 t2 t3 t4 m true) (h2:bH E lo q s1 s2 s3 s4 s b) (h3:E.pure 114 [.one lo,.agg (mo (Xg m s)),.agg (mo tp)]=some (.one (.int .i64 (.negSucc 0)))) (h:aB E lo (k+1) (.ofNat a) j tp vs gs i' j' t'):aB E lo k (.ofNat a) j tp (p::vs) (q::gs) i' j' t'
 |eq {k a:Nat} {i' j':Int} {tp t' m s:P'} {p q t1 t2 t3 t4 s1 s2 s3 s4:PL} {b:Bool} {vs gs:N'} (hm:XA m) (hs:XA s) (h1:bH E lo p t1 t2 t3 t4 m true) (h2:bH E lo q s1 s2 s3 s4 s b) (h3:E.pure 114 [.one lo,.agg (mo (Xg m s)),.agg (mo tp)]=some (.one (La0 0))) (h:aB E lo (k+1) (.ofNat a) (.ofNat k) tp vs gs i' j' t'):aB E lo k (.ofNat a) (.negSucc 0) tp (p::vs) (q::gs) i' j' t'
 |YX {k a c:Nat} {i' j':Int} {tp t' m s:P'} {p q t1 t2 t3 t4 s1 s2 s3 s4:PL} {b:Bool} {vs gs:N'} (hm:XA m) (hs:XA s) (h1:bH E lo p t1 t2 t3 t4 m true) (h2:bH E lo q s1 s2 s3 s4 s b) (h3:E.pure 114 [.one lo,.agg (mo (Xg m s)),.agg (mo tp)]=some (.one (La0 0))) (h:aB E lo (k+1) (.ofNat a) (.ofNat c) tp vs gs i' j' t'):aB E lo k (.ofNat a) (.ofNat c) tp (p::vs) (q::gs) i' j' t'
theorem K9 {E}{K}(d:E.mode=md){G O V}{F L}(B:Sl V (Xf F))(D:Sl G (Xf L))(z:F.length<1000000)(R){A}{i j M N}{I J}{H P}(h:aB E O A i j I H P M N J):I.length=8->F.drop A=H->L.drop A=P->A+H.length=F.length->∀k b,H.length<k->
  ∃C x,Xb E (K+9) 0 Ac x60_2 k ⟨yd G O V i j F.length A,R::dJ I::b⟩=some (.exit 0,⟨C,R::dJ J::x⟩)/\J.length=8/\Xi C 8=some (.one (.ptr 0 0 0 0))/\Xi C 9=some (La4 (.int .i64 M))/\Xi C 10=some (La4 (.int .i64 N))/\Xi C 11=some (.one (.ptr 1 0 0 0)):=by
 induction h with
 |nil A i j I=>
  intro a _ _ c k b g;rcases k with _|k;omega;simp only[Zr,ZU]at c;subst c;apply Cn
  ·rw[Xb];simp only[Xo,Xs,reduceIte,Nat.reduceEqDiff,x60_2,Zx];rfl
  ·refine⟨a,?_⟩;simp only[Xo,reduceIte,Nat.reduceEqDiff,and_self]
 |zero Q o h u=>
  intro a t q c k b g;rcases k with _|k;omega;simp only[Zj]at c g;obtain⟨n,l⟩:=Xh t;obtain⟨v,m⟩:=Xh q;obtain⟨x,e⟩:=Gh (K:=K+9) (k:=k) d (G:=G) B n z Q o R b;rw[e];exact u a l m (by omega) k _ (by omega)
 |first r s o w h u=>
  intro a t q c k b g;rcases k with _|k;omega;simp only[Zj]at c g;obtain⟨n,l⟩:=Xh t;obtain⟨v,m⟩:=Xh q;obtain⟨x,e⟩:=CD (K:=K) (k:=k) d B D n v z r s a o w R b;rw[e];exact u (Wo r.1 s.1) l m (by omega) k _ (by omega)
 |gt r s o w y h u=>
  intro a t q c k b g;rcases k with _|k;omega;simp only[Zj]at c g;obtain⟨n,l⟩:=Xh t;obtain⟨v,m⟩:=Xh q;obtain⟨x,e⟩:=K8 (K:=K) (k:=k) d B D n v z r s a o w y R b;rw[e];exact u (Wo r.1 s.1) l m (by omega) k _ (by omega)
 |lt r s o w y h u=>
  intro a t q c k b g;rcases k with _|k;omega;simp only[Zj]at c g;obtain⟨n,l⟩:=Xh t;obtain⟨v,m⟩:=Xh q;obtain⟨x,e⟩:=K7 (K:=K) (k:=k) d B D n v z r s a o w y R b;rw[e];exact u a l m (by omega) k _ (by omega)
 |eq r s o w y h u=>
  intro a t q c k b g;rcases k with _|k;omega;simp only[Zj]at c g;obtain⟨n,l⟩:=Xh t;obtain⟨v,m⟩:=Xh q;obtain⟨x,e⟩:=La (K:=K) (k:=k) d B D n v z r s a o w y R b;rw[e];exact u a l m (by omega) k _ (by omega)
 |YX r s o w y h u=>
  intro a t q c k b g;rcases k with _|k;omega;simp only[Zj]at c g;obtain⟨n,l⟩:=Xh t;obtain⟨v,m⟩:=Xh q;obtain⟨x,e⟩:=IV (K:=K) (k:=k) d B D n v z r s a o w y R b;rw[e];exact u a l m (by omega) k _ (by omega)
theorem Ad {B}(e:Std B){V G g}{a d}(k:Sl V (Xf a))(t:Sl G (Xf d))(I:a.length<100000){i j}{l}(h:XT B fun E _=>aB E g 0 (.negSucc 0) (.negSucc 0) Ut a d i j l):Xv B 60 [.one V,.one G,.one g] (.Wd [.one (.int .i64 i),.one (.int .i64 j),.agg (mo l)]):=by
 refine Xv.of (e.Wa _ _ rfl) ((h.and (e.Xk.and (XT.ge (a.length+10)))).mono fun E K ⟨n,b,H⟩=> ?_);obtain⟨K,rfl⟩:∃m,K=m+9:=⟨K-9,by omega⟩;obtain⟨v,u,c,s,o,p,q,r⟩:=K9 (K:=K) b k t (by omega) (dJ Ut) n rfl rfl rfl (by omega) (K+9) [] (by omega);have f:=k.len;rw[Xt]at f;obtain⟨w,x,y,z,A,C,D,F,rfl⟩:=eight s;simp only[yd,dJ,Xu,Ut,Zt,ZF]at c;simp+decide only[Xo,Xs,VD,reduceIte,Nat.reduceEqDiff,Nat.reduceLeDiff,Nat.reduceAdd,x60,f,c,o,p,q,r,mo]
theorem Cq {B}(b:Std B){p}{f}(e:PQ p f):Xv B 51 [.one p] (.one (.bool (decide (f.length=0)))):=by
 obtain⟨h,g,a⟩:=e;have c:=g.len;rw[a.length]at c;refine Xv.of (b.Wa _ _ rfl) (b.Xk.mono fun E K d=> ?_);simp only[Xo,Xs,reduceIte,Nat.reduceEqDiff,Nat.reduceLeDiff,x51,c]
abbrev ixS (L:PL)(n i:Nat):List (Nat×DV):=[(0,La4 L),(1,La4 (.fn 51 [])),(7,La1 n),(8,La1 i)]
abbrev YZ (E:Xa)(b:Bool)(p:PL):Prop:=E.pure 51 [.one p]=some (.one (.bool b))
theorem Iq {E}{K}(a:E.mode=md){L}{c}(r:Sl L (Xf c))(y:c.length<1000000):∀rest (d:List Bool),XE (fun b p=>YZ E b p) d rest->∀i k,c.drop i=rest->i+rest.length=c.length->rest.length<k->
  ∃e g,Xb E K 0 [0,1,7,8] x94_1 k ⟨ixS L c.length i,[]⟩=some (e,⟨g,[]⟩)/\((d.any id=false/\e=.exit 0)\/(d.any id=true/\e=.ret/\∃j,Xi g 4=some (La1 j)))
 |[],_,.nil,i,k,_,hi,hk=>by
  rcases k with _|k;omega;simp only[Zr,ZU]at hi;subst hi;refine⟨.exit 0,?_⟩;apply VW
  ·rw[Xb];simp only[Xo,Xs,reduceIte,Nat.reduceEqDiff,x94_1,Zx];rfl
  grind
 |p::rest,b::d,.cons h1 h,i,k,hd,hi,hk=>by
  rcases k with _|k;omega;simp only[Zj]at hi hk;obtain⟨w,s⟩:=Xh hd;have f:i<c.length:=by omega
  have q:=fun(x:HF) (z:IntKind)=>r.idx (h:=x) (k:=z) (sz:=1) (XK w) rfl
  have t:Xd .i64 (.ofNat (i+1))=.ofNat (i+1):=wrap_i64 (by omega);have n:∀(h:HF) (l:DL),Rr E h [La4 (.fn 51 []),.one l]=VL E h 51 [.one l]:=fun h l=>rfl
  have o:∀(l:DL),XQ E .Sw [La4 (.fn 51 []),.one l]=TB E 51:=fun l=>rfl
  have A:Xm E .Sw=false:=rfl;cases b with
  |true=>
   refine⟨.ret,?_⟩;apply VW
   ·rw[Xb];simp+decide only[Xo,Xs,reduceIte,x94_1,a,X3,f,q,h1,n,o];rfl
   ·exact .inr ⟨rfl,rfl,i,by simp only[Xo,reduceIte,Nat.reduceEqDiff]⟩
  |false=>
   obtain⟨e,g,u,v⟩:=Iq a r y rest d h (i+1) k s (by omega) (by omega);refine⟨e,g,?_,v⟩;rw[Xb];simp+decide only[Xo,Xs,reduceIte,x94_1,a,X3,f,q,h1,t,n,o];exact u
theorem mP {B}(c:Std B):∀{d} {a},VV d a->XT B fun E _=>XE (fun b p=>YZ E b p) (a.map fun f=>decide (f.length=0)) d
 |[],_,.nil=>XT.of fun _ _=>.nil
 |_::_,_::_,.cons h t=>((Cq c h).Xk.and (mP c t)).mono fun _ _ ⟨e1,e2⟩=>.cons e1 e2
theorem qO {B}(d:Std B){L}{e}{g}(m:Sl L (Xf e))(q:VV e g)(w:e.length<100000):
  Xv B 52 [.one L,.one (.fn 51 [])] (.one (.bool ((g.map fun f=>decide (f.length=0)).any id))):=by
 have s:∃r,Xv B 94 [.one L,.one (.fn 51 [])] (.one (.int .i64 r))/\yY (.ofNat 0) r=(g.map fun f=>decide (f.length=0)).any id:=by
  obtain⟨r,k,l⟩:=Xv.eE (p:=fun r=>∃z,r=.one (.int .i64 z)/\yY (.ofNat 0) z=(g.map fun f=>decide (f.length=0)).any id) (d.Wa 94 _ rfl) (a:=[.one L,.one (.fn 51 [])]) (((mP d q).and (d.Xk.and (XT.ge (e.length+1)))).mono fun E K ⟨n,b,v⟩=>by
   obtain⟨u,t,i,c⟩:=Iq (K:=K) b m (by omega) e _ n 0 K rfl (by omega) (by omega);have h:=m.len;rw[Xt]at h;rcases c with⟨c,rfl⟩|⟨c,rfl,j,o⟩
   ·refine⟨_,?_,.negSucc 0,rfl,by rw[c];rfl⟩;simp only[Xo,Xs,reduceIte,Nat.reduceEqDiff,Nat.reduceLeDiff,Nat.reduceAdd,x94,h,i]
   ·refine⟨_,?_,.ofNat j,rfl,by rw[c];rfl⟩;simp only[Xo,Xs,reduceIte,Nat.reduceEqDiff,Nat.reduceLeDiff,Nat.reduceAdd,x94,h,i,o])
  grind
 obtain⟨r,k,l⟩:=s;refine Xv.of (d.Wa _ _ rfl) ((k.Xk.and d.Xk).mono fun E K ⟨e1,b⟩=> ?_);rw[<-l];simp only[Xo,reduceIte,Nat.reduceEqDiff,Nat.reduceLeDiff,Nat.reduceAdd,Xs,x52,b,X3,e1]
structure vo (E:Xa)(G lo p q:PL)(i j n:Nat)(xs:N'):Prop where
 ex:∃s Q R a1 a2 a3 a4 b1 b2 b3 b4 x1 x2 x3 x4 y1 y2 y3 y4 z1 z2 z3 z4 U W M m m' l u w,m.length=8/\m'.length=8/\l.length=8/\u.length=8/\w.length=8/\
  E.pure 100 [.one p,.one q,.one lo]=some (.Wd [.one s,.one (La0 0)])/\
  E.pure 101 [.one s,.one G,.one lo]=some (.Wd [.one Q,.one R,.one (La0 0)])/\
  bH E lo p a1 a2 a3 a4 m true/\bH E lo q b1 b2 b3 b4 m' true/\
  E.pure 63 [.agg (mo m),.agg (mo m')]=some (.agg (mo l))/\
  E.pure 62 [.agg (mo l),.agg (mo m)]=some (.Wd [.agg (mo u),.one (.bool true)])/\
  E.pure 62 [.agg (mo l),.agg (mo m')]=some (.Wd [.agg (mo w),.one (.bool true)])/\
  E.pure 102 [.agg [a1,a2,a3,a4]]=some (.Wd [.agg [x1,x2,x3,x4],.one (La0 0)])/\
  E.pure 102 [.agg [b1,b2,b3,b4]]=some (.Wd [.agg [y1,y2,y3,y4],.one (La0 0)])/\
  E.pure 103 [.one (La0 i),.one (La0 n),.agg [x1,x2,x3,x4],.agg (mo u)]=some (.one U)/\
  E.pure 104 [.agg [y1,y2,y3,y4]]=some (.agg [z1,z2,z3,z4])/\
  E.pure 103 [.one (La0 j),.one (La0 n),.agg [z1,z2,z3,z4],.agg (mo w)]=some (.one W)/\
  E.pure 105 [.one Q]=some (.one M)/\
  E.pure 69 [.one U,.one (.Xl [[W],[M]])]=some (.one (.Xl (Xf xs)))
abbrev Ii (G lo p:PL)(L:DL)(n i j:Nat):List (Nat×DV):=[(0,La4 G),(1,La4 lo),(6,.one L),(7,La1 i),(8,La4 p),(9,La1 j),(27,La4 G),(28,La1 n),(29,La1 i)]
abbrev Ja:P':=[0,1,6,7,8,9,27,28,29]
abbrev Lf (v:Nat)(o:N'):Xx:=⟨false,v,1,pc (Xf o),false,30⟩
theorem DU (a)(r):pc (Xf a)++[[.p r]]=pc (Xf (a++[r])):=by simp[pc,Xf]
theorem MZ {d e f:Type}{p q:d->e->f->Prop}{a}{b}{c:f}(h:p a b c)(k:q a b c):∃a b c,p a b c/\q a b c:=⟨a,b,c,h,k⟩
theorem I8 {E}{K k i j}(y:E.mode=md){G z p q}{b C}(P:Sl G (Xf b))(O:b[j]? =some q)(hl:b.length<1000000)(h:vo E G z p q i j b.length C)(H){d v}{o}(hd:H[d]? =some (Lf v o))(ho:o.length<1000000):
  ∃S,Xb E K 0 Ja x54_1 (k+1) ⟨Ii G z p (.own d v 0 o.length) b.length i j,H⟩=Xb E K 0 Ja x54_1 k ⟨Ii G z p (.own d (v+1) 0 (o++[PL.Xl (Xf C)]).length) b.length i (j+1),H.set d (Lf (v+1) (o++[PL.Xl (Xf C)]))++S⟩:=by
 obtain⟨s,Q,R,a1,a2,a3,a4,b1,b2,b3,b4,x1,x2,x3,x4,y1,y2,y3,y4,z1,z2,z3,z4,U,W,M,m,m',l,u,w,m8,A,l8,u8,w8,Z,h2,D,F,I,J,N,h8,h9,c,f,e,g,n⟩:=h.ex;have t:j<b.length:=(Zg.mp O).1;have iq:=fun(hh:HF) (kd:IntKind)=>P.idx (h:=hh) (k:=kd) (sz:=1) (XK O) rfl
 have a:=P.len;rw[Xt]at a;have B:∀T:Z',(PL.Xl T).scalar=false:=fun _=>rfl
 have V:Xd .i64 (.ofNat (j+1))=.ofNat (j+1):=wrap_i64 (by omega);have r:d<H.length:=(Zg.1 hd).1;have Y:∀L:V',(H++L)[d]? =some (Lf v o):=fun L=>by grind
 have sd:∀(L:V') (x:Xx),(H++L).set d x=H.set d x++L:=fun L x=>List.set_append_left _ _ r
 have q2:(o.length+1)*24<=lim:=by unfold lim;omega
 have q3:o.length+1<=9223372036854775807:=by omega
 have k5:¬(H.length+5<=H.length):=by omega
 have k6:¬(H.length+6<=H.length):=by omega
 have e1:¬(H.length+7=d):=by omega
 have e2:¬(d=H.length+7):=by omega
 rw[Zn,ZK];obtain⟨c0,c1,c2,c3,c4,c5,c6,c7,rfl⟩:=eight m8;obtain⟨d0,d1,d2,d3,d4,d5,d6,d7,rfl⟩:=eight A;obtain⟨r0,r1,r2,r3,r4,r5,r6,r7,rfl⟩:=eight l8;obtain⟨f0,X,f2,f3,f4,f5,f6,f7,rfl⟩:=eight u8;obtain⟨g0,g1,g2,g3,g4,g5,g6,g7,rfl⟩:=eight w8;simp only[bH,mo,Zt,ZF]at D F I J N c e;apply Exists.intro
 ·rw[Xb];simp+decide only[Xo,Xs,VD,Vv,reduceIte,Nat.reduceEqDiff,Nat.reduceLeDiff,Nat.reduceAdd,x54_1,y,X3,t,iq,a,Z,h2,D,F,I,J,N,h8,h9,c,f,e,g,n,V,k5,k6,e1,e2,Yi,Y,sd,q2,q3,WB,Xt,DU,VM,V4,Wk,Wp,Zp,Zn,Zw,B];rfl
theorem I9 {E}{K k i j}(r:E.mode=md){G t p q}{b L}(J:Sl G (Xf b))(I:b[j]? =some q)(hl:b.length<1000000)(h:vo E G t p q i j b.length L)(H):
  ∃z d v,Xb E K 0 Ja x54_1 (k+1) ⟨Ii G t p (.p .Xp) b.length i j,H⟩=Xb E K 0 Ja x54_1 k ⟨Ii G t p (.own d v 0 1) b.length i (j+1),H++z⟩/\(H++z)[d]? =some (Lf v [PL.Xl (Xf L)]):=by
 obtain⟨s,Q,R,a1,a2,a3,a4,b1,b2,b3,b4,x1,x2,x3,x4,y1,y2,y3,y4,z1,z2,z3,z4,U,W,M,m,m',l,u,w,m8,x,l8,u8,w8,S,T,A,B,C,D,F,V,X,c,f,e,g,n⟩:=h.ex;have o:j<b.length:=(Zg.mp I).1;have Z:=fun(Y:HF) (kd:IntKind)=>J.idx (h:=Y) (k:=kd) (sz:=1) (XK I) rfl
 have a:=J.len;rw[Xt]at a;have y:∀N:Z',(PL.Xl N).scalar=false:=fun _=>rfl
 have O:Xd .i64 (.ofNat (j+1))=.ofNat (j+1):=wrap_i64 (by omega);have k5:¬(H.length+5<=H.length):=by omega
 have k6:¬(H.length+6<=H.length):=by omega
 obtain⟨c0,c1,c2,c3,c4,c5,c6,c7,rfl⟩:=eight m8;obtain⟨d0,d1,d2,d3,d4,d5,d6,d7,rfl⟩:=eight x;obtain⟨r0,r1,r2,r3,r4,r5,r6,r7,rfl⟩:=eight l8;obtain⟨f0,P,f2,f3,f4,f5,f6,f7,rfl⟩:=eight u8;obtain⟨g0,g1,g2,g3,g4,g5,g6,g7,rfl⟩:=eight w8;simp only[bH,mo,Zt,ZF]at A B C D F c e;apply MZ
 ·rw[Xb];simp+decide only[Xo,Xs,VD,Vv,reduceIte,Nat.reduceEqDiff,Nat.reduceLeDiff,Nat.reduceAdd,x54_1,r,X3,o,Z,a,S,T,A,B,C,D,F,V,X,c,f,e,g,n,O,W9,k5,k6,VM,V4,Wk,Wp,Zp,Zn,Zw,y];rfl
 ·rw[VM];rfl
abbrev gF (xss:Z'):N':=xss.map fun xs=>.Xl (Xf xs)
def KI (H:V')(L:DL)(o:N'):Prop:=(L=.p .Xp/\o=[])\/∃d v,L=.own d v 0 o.length/\H[d]? =some (Lf v o)
inductive NJ (E:Xa)(G lo p:PL)(i n:Nat):Nat->N'->Z'->Prop
 |nil (j:Nat):NJ E G lo p i n j [] []
 |cons {j:Nat} {q:PL} {qs xs:N'} {xss:Z'} (h:vo E G lo p q i j n xs) (t:NJ E G lo p i n (j+1) qs xss):NJ E G lo p i n j (q::qs) (xs::xss)
inductive fH (E:Xa)(G lo:PL)(n:Nat):Nat->N'->Z'->Prop
 |nil (i:Nat):fH E G lo n i [] []
 |cons {i:Nat} {p:PL} {ps:N'} {x1 x2:Z'} (h:NJ E G lo p i n (i+1) ps x1) (t:fH E G lo n (i+1) ps x2):fH E G lo n i (p::ps) (x1++x2)
theorem NJ.len {E}{G d p}{i n j}{b}{a}(h:NJ E G d p i n j b a):a.length=b.length:=by
 induction h with
 |nil=>rfl
 |cons _ _ c=>simp[c]
theorem C7 {E}{K k i j}(b:E.mode=md){G c p q}{a s o}(r:Sl G (Xf a))(n:a[j]? =some q)(m:a.length<1000000)(h:vo E G c p q i j a.length s){H}{L}(w:KI H L o)(y:o.length<1000000):
  ∃f g,Xb E K 0 Ja x54_1 (k+1) ⟨Ii G c p L a.length i j,H⟩=Xb E K 0 Ja x54_1 k ⟨Ii G c p g a.length i (j+1),f⟩/\KI f g (o++[.Xl (Xf s)]):=by
 rcases w with⟨rfl,rfl⟩|⟨d,v,rfl,l⟩
 ·obtain⟨t,d,v,e,u⟩:=I9 (K:=K) (k:=k) b r n m h H;exact⟨_,_,e,.inr ⟨d,v,rfl,u⟩⟩
 ·obtain⟨t,e⟩:=I8 (K:=K) (k:=k) b r n m h H l y;have x:d<H.length:=(Zg.1 l).1;exact⟨_,_,e,.inr ⟨d,v+1,rfl,by grind⟩⟩
theorem Lh {E}{K i}(m:E.mode=md){G r p}{c}(v:Sl G (Xf c))(A:c.length<1000000){j}{f}{d}(h:NJ E G r p i c.length j f d):∀k H L o,KI H L o->c.drop j=f->j+f.length=c.length->o.length+f.length<1000000->f.length<k->
  ∃b s t,Xb E K 0 Ja x54_1 k ⟨Ii G r p L c.length i j,H⟩=some (.exit 2,⟨b,s⟩)/\KI s t (o++gF d)/\Xi b 0=some (La4 G)/\Xi b 1=some (La4 r)/\Xi b 6=some (.one t)/\Xi b 27=some (La4 G)/\Xi b 28=some (La1 c.length)/\Xi b 29=some (La1 i):=by
 induction h with
 |nil j=>
  intro k H L o l _ g _ u;rcases k with _|k;omega;simp only[Zr,ZU]at g;subst g;have a:=v.len;rw[Xt]at a;apply MZ
  ·rw[Xb];simp only[Xo,Xs,reduceIte,Nat.reduceEqDiff,x54_1,a,Zx];rfl
  ·refine⟨by simpa using l,?_⟩;simp only[Xo,reduceIte,Nat.reduceEqDiff,and_self]
 |@cons j q f J d x h I=>
  intro k H L o l z g B u;rcases k with _|k;omega;simp only[Zj]at g u B;obtain⟨w,F⟩:=Xh z;obtain⟨C,D,e,y⟩:=C7 (K:=K) (k:=k) m v w A x l (by omega)
  grind
abbrev YQ (G lo:PL)(L:DL)(n i:Nat):List (Nat×DV):=[(0,La4 G),(1,La4 lo),(6,.one L),(27,La4 G),(28,La1 n),(29,La1 i)]
theorem Li {E}{K}(m:E.mode=md){G u}{a}(v:Sl G (Xf a))(W:a.length<1000)(V:a.length<K){i}{b}{c}(h:fH E G u a.length i b c):∀k H L o,KI H L o->a.drop i=b->i+b.length=a.length->o.length+b.length*1000<1000000->b.length<k->
  ∃f d e,Xb E K 0 [0,1,6,27,28,29] x54_2 k ⟨YQ G u L a.length i,H⟩=some (.exit 0,⟨f,d⟩)/\KI d e (o++gF c)/\Xi f 6=some (.one e):=by
 induction h with
 |nil i=>
  intro k H L o j _ g _ t;rcases k with _|k;omega;simp only[Zr,ZU]at g;subst g;apply MZ
  ·rw[Xb];simp only[Xo,Xs,reduceIte,Nat.reduceEqDiff,x54_2,Zx];rfl
  ·refine⟨by simpa using j,?_⟩;simp only[Xo,reduceIte,Nat.reduceEqDiff]
 |@cons i p b Z x2 s h P=>
  intro k H L o j M g O t;rcases k with _|k;omega;simp only[Zj]at g t O;obtain⟨J,q⟩:=Xh M;have l:i<a.length:=by omega
  have Q:=fun(N:HF) (R:IntKind)=>v.idx (h:=N) (k:=R) (sz:=1) (XK J) rfl
  have y:Xd .i64 (.ofNat (i+1))=.ofNat (i+1):=wrap_i64 (by omega);obtain⟨U,w,x,r,z,A,B,C,D,F,I⟩:=Lh (K:=K) m v (by omega) s K H L o j q (by omega) (by omega) (by omega);have X:=s.len;obtain⟨f,d,e,S,Y,T⟩:=P k w x _ z q (by omega) (by grind) (by omega);simp only[Ii]at r;refine⟨f,d,e,?_,by grind,T⟩;rw[Xb];simp+decide only[Xo,Xs,reduceIte,x54_2,l,Q,y,r,A,B,C,D,F,I];exact S
theorem jf {B}(l:Std B){G i}{c}{b}(m:Sl G (Xf c))(C:c.length<900)(h:XT B fun E _=>fH E G i c.length 0 c b):∃L,Sl L (Xf (gF b))/\Xv B 54 [.one G,.one i] (.Wd [.one L,.one (La0 0)]):=by
 obtain⟨r,o,L,q,rfl⟩:=Xv.eE (p:=fun r=>∃L,Sl L (Xf (gF b))/\r=.Wd [.one L,.one (La0 0)]) (l.Wa 54 _ rfl) (a:=[.one G,.one i]) ((h.and (l.Xk.and (XT.ge (c.length+1)))).mono fun E K ⟨n,f,A⟩=>by
  obtain⟨z,x,y,e,j,k⟩:=Li (K:=K) f m (by omega) (by omega) n K [] (.p .Xp) [] (.inl ⟨rfl,rfl⟩) rfl (by omega) (by grind) (by omega);have g:=m.len;rw[Xt]at g;simp only[YQ]at e;rw[ZB]at j;rcases j with⟨rfl,u⟩|⟨d,v,rfl,s⟩
  ·refine⟨_,?_,.Xp,by rw[u];exact .nil,rfl⟩;simp+decide only[Xo,Xs,reduceIte,Nat.reduceAdd,x54,g,e,k]
  ·have w:(pc (Xf (gF b))).take (gF b).length=pc (Xf (gF b)):=WT (Xf (gF b)) (by grind [Xt]);have t:=fun h=>Vb 5 h (Xf (gF b))
   refine⟨_,?_,.Xl (Xf (gF b)),.Xl,rfl⟩;simp+decide only[Xo,Xs,reduceIte,Nat.reduceAdd,x54,g,e,k,s,w,t,WB,Xt,Zf])
 exact⟨L,q,o⟩
structure Kt (E:Xa)(G lo:PL)(gs ls vs cs:N')(V:PL)(k:Nat)(d:Z')(vs':N'):Prop where
 ex:∃i j p q r X F' Y a1 a2 a3 a4 b1 b2 b3 b4 t1 t2 t3 t4 c1 c2 c3 c4 c0 m a b t l u,∃z:Bool,m.length=8/\a.length=8/\b.length=8/\t.length=8/\l.length=8/\u.length=8/\
  gs[i]? =some p/\gs[j]? =some q/\vs[i]? =some r/\ls[k]? =some X/\cs[k]? =some c0/\
  E.pure 60 [.one V,.one G,.one lo]=some (.Wd [.one (La0 i),.one (La0 j),.agg (mo m)])/\
  bH E lo p a1 a2 a3 a4 a true/\bH E lo q b1 b2 b3 b4 b true/\bH E lo r t1 t2 t3 t4 t true/\
  E.pure 63 [.agg (mo a),.agg (mo b)]=some (.agg (mo l))/\
  E.pure 62 [.agg (mo m),.agg (mo l)]=some (.Wd [.agg (mo u),.one (.bool z)])/\
  E.pure 64 [.agg [t1,t2,t3,t4],.agg [a1,a2,a3,a4]]=some (.agg [c1,c2,c3,c4])/\
  E.pure 65 [.one (La0 i),.one (La0 j),.one (La0 gs.length)]=some (.one (La0 k))/\
  E.pure 67 [.one .Xp,.one (.Xl [c1::c2::c3::c4::mo u])]=some (.one (.Xl F'))/\
  E.pure 66 [.one X,.one (.Xl F')]=some (.Wd [.one Y,.one (.bool true)])/\
  E.pure 68 [.one c0,.one (.Xl [c1::c2::c3::c4::mo u])]=some (.one (.Xl d))/\
  E.pure 69 [.one V,.one (.Xl [[Y]])]=some (.one (.Xl (Xf vs')))
abbrev Ms (G lo L V:PL)(n:Nat):List (Nat×DV):=[(1,La4 G),(2,La4 lo),(8,La4 L),(10,.one (.own 0 0 0 n)),(11,La4 V)]
theorem E3 {E:Xa}{K k A:Nat}(y:E.mode=md){G B L V:PL}{d:Z'}{F R S s n:N'}(D:Sl G (Xf F))(sl:Sl L (Xf R))(sv:Sl V (Xf S))(h:Kt E G B F R S n V A d s)(c:V'):
  ∃T,Xb E K 0 [1,2,8,10,11] x25_1 (k+1) ⟨Ms G B L V n.length,Cj n::c⟩=Xb E K 0 [1,2,8,10,11] x25_1 k ⟨Ms G B L (.Xl (Xf s)) n.length,Cj (n.set A (.Xl d))::(c++T)⟩:=by
 obtain⟨i,j,p,q,r,X,F',Y,a1,a2,a3,a4,b1,b2,b3,b4,t1,t2,t3,t4,c1,c2,c3,c4,c0,m,a,b,t,l,u,z,m8,U,W,t8,l8,u8,hp,hq,hr,hX,Q,H,I,J,M,N,O,h7,h8,P,v,o,w⟩:=h.ex;have ip:=fun(f:HF) (g:IntKind)=>D.idx (h:=f) (k:=g) (sz:=1) (XK hp) rfl
 have iq:=fun(f:HF) (g:IntKind)=>D.idx (h:=f) (k:=g) (sz:=1) (XK hq) rfl
 have ir:=fun(f:HF) (g:IntKind)=>sv.idx (h:=f) (k:=g) (sz:=1) (XK hr) rfl
 have iX:=fun(f:HF) (g:IntKind)=>sl.idx (h:=f) (k:=g) (sz:=1) (XK hX) rfl
 have gc:=Q6 Q;have x:A<n.length:=(Zg.mp Q).1;have e:=D.len;rw[Xt]at e;have C:∀Z:Z',(PL.Xl Z).scalar=false:=fun _=>rfl
 have k5:¬(c.length+5<=c.length):=by omega
 have k6:¬(c.length+6<=c.length):=by omega
 have k7:¬(c.length+7<=c.length):=by omega
 obtain⟨m0,m1,m2,m3,m4,m5,m6,m7,rfl⟩:=eight m8;obtain⟨d0,d1,d2,d3,d4,d5,d6,d7,rfl⟩:=eight U;obtain⟨e0,e1,e2,e3,e4,e5,e6,e7,rfl⟩:=eight W;obtain⟨f0,f1,f2,f3,f4,f5,f6,f7,rfl⟩:=eight t8;obtain⟨g0,g1,g2,g3,g4,g5,g6,g7,rfl⟩:=eight l8;obtain⟨r0,r1,r2,r3,r4,r5,r6,r7,rfl⟩:=eight u8;simp only[bH,mo,Zt,ZF]at H I J M N O P o;apply Exists.intro
 ·rw[Xb];simp+decide only[Xo,Xs,VD,Vv,reduceIte,Nat.reduceEqDiff,Nat.reduceLeDiff,Nat.reduceAdd,x25_1,y,X3,x,ip,iq,ir,iX,gc,iE,e,H,I,J,M,N,O,h7,h8,P,v,o,w,VM,V4,Wk,Wp,Zp,Zn,Zw,C,k5,Nat.not_lt_zero];rfl
inductive vw (E:Xa)(G lo:PL)(gs ls:N'):Nat->PL->N'->N'->N'->Prop
 |done {V:PL} {vs cs:N'} {i:Int} {m:P'} (m8:m.length=8) (h:E.pure 60 [.one V,.one G,.one lo]=some (.Wd [.one (.int .i64 i),.one (.int .i64 (.negSucc 0)),.agg (mo m)])):vw E G lo gs ls 0 V vs cs cs
 |step {r k:Nat} {V:PL} {vs vs' cs cs':N'} {d:Z'} (sv:Sl V (Xf vs)) (h:Kt E G lo gs ls vs cs V k d vs') (t:vw E G lo gs ls r (.Xl (Xf vs')) vs' (cs.set k (.Xl d)) cs'):vw E G lo gs ls (r+1) V vs cs cs'
theorem vw.len {E}{G e V}{c f g b a}{r}(h:vw E G e c f r V g b a):a.length=b.length:=by
 induction h with
 |done=>rfl
 |step _ _ _ d=>rw[d,Yi]
theorem LM {E}{K}(c:E.mode=md){G l L}{j n}(v:Sl G (Xf j))(w:Sl L (Xf n)){r}{V}{o a b}(h:vw E G l j n r V o a b):∀k d,r<k->
  ∃f q,Xb E K 0 [1,2,8,10,11] x25_1 k ⟨Ms G l L V a.length,Cj a::d⟩=some (.ret,⟨f,Cj b::q⟩)/\Xi f 6=some (.one (.own 0 0 0 a.length))/\Xi f 7=some (La1 0):=by
 induction h with
 |@done V o a i m u h=>
  intro k d s;rcases k with _|k;omega;obtain⟨A,B,m2,C,D,F,H,I,rfl⟩:=eight u;simp only[mo,Zt,ZF]at h;apply Cn
  ·rw[Xb];simp+decide only[Xo,Xs,Vv,reduceIte,Nat.reduceAdd,x25_1,c,X3,h,Wk,Wp,Zn,Zw];rfl
  ·simp only[Xo,reduceIte,Nat.reduceEqDiff,and_self]
 |step x h t z=>
  intro k d s;rcases k with _|k;omega;obtain⟨y,e⟩:=E3 (K:=K) (k:=k) c v w x h d
  simp_all [Yi]
theorem sG {B}(c:Std B){G a L}(h:Xv B 50 [.one a] (.one (.bool true)))(i:Xv B 52 [.one G,.one (.fn 51 [])] (.one (.bool false)))(f:Xv B 53 [.one G,.one a] (.one (.bool true)))(g:Xv B 54 [.one G,.one a] (.Wd [.one L,.one (La0 0)])):Xv B 19 [.one G,.one a] (.Wd [.one L,.one (La0 0)]):=by
 refine Xv.of (c.Wa _ _ rfl) ((h.Xk.and (i.Xk.and (f.Xk.and (g.Xk.and c.Xk)))).mono fun E K ⟨e1,e2,d,e,b⟩=> ?_);simp+decide only[Xo,Xs,Vv,reduceIte,Nat.reduceAdd,x19,b,X3,e1,e2,d,e]
theorem xB {B}(g:Std B){S G lo L}{f a vs cs'}{r}(u:Sl G (Xf f))(j:Sl L (Xf a))(y:a.length<1000)(q:Xv B 19 [.one G,.one lo] (.Wd [.one L,.one (La0 0)]))(p:Xv B 13 [.one S,.one G] (.one (.bool true)))(h:XT B fun E _=>vw E G lo f a r S vs (List.replicate a.length .Xp) cs'):
  Xv B 25 [.one S,.one G,.one lo] (.Wd [.one (.Xl (Xf cs')),.one (La0 0)]):=by
 refine Xv.of (g.Wa _ _ rfl) ((q.Xk.and (p.Xk.and (h.and (g.Xk.and (XT.ge (r+1)))))).mono fun E K ⟨e1,e2,d,b,x⟩=> ?_);obtain⟨w,v,c,e,n⟩:=LM (K:=K) b u j d K [] (by omega);have t:=d.len;rw[YL]at t c e;have i:=j.len;rw[Xt]at i;have k:24*a.length<=lim:=by unfold lim;omega
 have l:a.length<=9223372036854775807:=by omega
 have m:a.length<=cs'.length:=by omega
 have s:(pc (Xf cs')).take a.length=pc (Xf cs'):=WT (Xf cs') (by rw[Xt];omega);have o:=fun h=>Vb 5 h (Xf cs')
 simp only[Ms]at c;simp+decide only[Xo,Xs,VD,Vv,reduceIte,Nat.reduceAdd,x25,b,X3,e1,e2,i,k,l,pH,c,e,n,s,o,WB,Xt,m]
