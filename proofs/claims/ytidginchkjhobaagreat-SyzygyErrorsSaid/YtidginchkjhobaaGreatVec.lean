/- Package syzygy: vectors: minus, unit, position. -/
import Derived.Test.YtidginchkjhobaaGreatMap
set_option maxHeartbeats 16000000
set_option maxRecDepth 100000
namespace Go.Proofs.YtidginchkjhobaaGreat
open Go.Ev Go.Num
abbrev wW (cs:List PL):Xz:=⟨false,0,1,pc (Xf cs),false,33⟩
theorem kq {a:List PL}{i:Nat}{x:PL}:(pc (Xf a)).set i [.p x]=pc (Xf (a.set i x)):=by
 simp[pc,Xf,List.map_set]
theorem eA {cs:List PL}{i:Nat}{p:PL}(h:cs[i]? =some p):(pc (Xf cs))[i]? =some [.p p]:=by
 simp[pc,Xf,ZA,h]
abbrev Fo (V:PL)(n i:Nat):List (Nat×DV):=[(3,.one (.own 0 0 0 n)),(9,.one (.p V)),(10,.one (.p (.int .i64 (.ofNat n)))),(11,.one (.p (.int .i64 (.ofNat i))))]
theorem xm {E:Xa}{K k i:Nat}(d:E.mode=md){V p x:PL}{a b:List PL}(q:Sl V (Xf a))(e:a[i]? =some p)(r:b.length=a.length)(s:a.length<1000000)(j:E.pure 67 [.one .XC,.one p]=some (.one x)):
  Xb E K 0 [3,9,10,11] x105_1 (k+1) ⟨Fo V a.length i,[wW b]⟩=Xb E K 0 [3,9,10,11] x105_1 k ⟨Fo V a.length (i+1),[wW (b.set i x)]⟩:=by
 have c:i<a.length:=(Zb.mp e).1;have n:=fun(l:HF) (o:IntKind)=>q.idx (h:=l) (k:=o) (sz:=1) (XJ e) rfl
 have f:Xe .i64 (.ofNat (i+1))=.ofNat (i+1):=wrap_i64 (by omega);obtain⟨y,m⟩:∃y,b[i]? =some y:=⟨_,Zf (by omega)⟩;have g:=eA m;rw[Xb];simp(decide:=true)only[Xm,Xq,Vm,reduceIte,x105_1,d,X5,c,n,j,f,g,kq]
theorem bk {b:Type}{a:List b}{i:Nat}{x:b}(h:i<a.length):(a.set i x).take (i+1)=a.take i++[x]:=by
 apply List.ext_getElem?;intro j;rcases Nat.lt_trichotomy j i with hj|rfl|hj
 ·rw[Z7,if_pos (by omega),ZM (by omega),ZB (by simp;omega),Z7,if_pos hj]
 ·rw[Z7,if_pos (by omega),YR h,ZL (by rw[ZO];omega),ZO,Yt (by omega),YV];rfl
 ·rw[YB (by simp;omega),YB (by simp;omega)]
theorem EA {E:Xa}{K:Nat}(g:E.mode=md){V:PL}{b:List PL}(v:Sl V (Xf b))(t:b.length<1000000){rest a:List PL}(h:XF (fun p x=>E.pure 67 [.one .XC,.one p]=some (.one x)) rest a):∀(i k:Nat) (c:List PL),b.drop i=rest->i+rest.length=b.length->c.length=b.length->rest.length<k->
  ∃d,Xb E K 0 [3,9,10,11] x105_1 k ⟨Fo V b.length i,[wW c]⟩=some (.exit 0,⟨d,[wW (c.take i++a)]⟩)/\Xh d 3=some (.one (.own 0 0 0 b.length)):=by
 induction h with
 |nil=>
  intro i k c _ e f m;obtain⟨k,rfl⟩:∃j,k=j+1:=⟨k-1,by omega⟩;simp only[Zu,Yk]at e;subst e;rw[ZS,Zd (by omega)];apply VE
  ·rw[Xb];simp only[Xm,Xq,reduceIte,Nat.reduceEqDiff,x105_1,Zx];rfl
  ·simp only[Xm,reduceIte,Nat.reduceEqDiff]
 |@cons p x rest a r h u=>
  intro i k c s e f m;obtain⟨k,rfl⟩:∃j,k=j+1:=⟨k-1,by omega⟩;simp only[Zi]at e m;obtain⟨q,n⟩:=Xi s;rw[xm g v q f t r];obtain⟨d,l,o⟩:=u (i+1) k (c.set i x) n (by omega) (by simpa using f) (by omega);rw[bk (by omega),Zq]at l;exact⟨d,l,o⟩
theorem kR (n:Nat):List.replicate n [DL.p .XC]=pc (Xf (List.replicate n .XC)):=by
 simp[pc,Xf]
theorem n9 {B:Xs}(f:Std B){V:PL}{b a:List PL}(i:Sl V (Xf b))(s:b.length<100000)(h:X1 B fun E _=>XF (fun p x=>E.pure 67 [.one .XC,.one p]=some (.one x)) b a):Xx B 105 [.one V] (.one (.Xp (Xf a))):=by
 refine Xx.of (f.Wa _ _ rfl) ((h.and (f.Xj.and (X1.ge (b.length+1)))).mono fun E K ⟨d,c,r⟩=> ?_);obtain⟨q,e,m⟩:=EA (K:=K) c i (by omega) d 0 K (List.replicate b.length .XC) rfl (by omega) (by simp) (by omega);have g:=i.len;rw[Xr]at g;simp only[Fo,List.take_zero,ZF]at e;have j:24*b.length<=lim:=by unfold lim;omega
 have k:b.length<=9223372036854775807:=by omega
 have t:=d.length;have l:b.length<=a.length:=by omega
 have o:(pc (Xf a)).take b.length=pc (Xf a):=VA (Xf a) (by rw[Xr];omega);have n:=fun h=>VK 5 h (Xf a)
 simp(decide:=true)only[Xm,Xq,Vg,reduceIte,x105,g,j,k,kR,e,m,o,n,Wl,Xr,l]
theorem oT {n:Nat}{h:HF}{l:DL}{p:PL}(b:XA (n+1) h l=some p):∀(a:List PL) (i:Nat),Xt (Xt (XA (n+1) h)) ((pc (Xf a)).set i [l])=some (Xf (a.set i p))
 |[],_=>rfl
 |c::a,0=>by
  have:=VK (n+1) h (Xf a);simp only[pc,Xf,Zr,ZE,List.set_cons_zero,Xt,b]at this⊢;rw[this]
 |c::a,i+1=>by
  have:=oT b a i;have e:XA (n+1) h (.p c)=some c:=rfl;simp only[pc,Xf,Zr,ZE,Y3,Xt,e]at this⊢;rw[this]
theorem zz {n:Nat}{H:List Xz}{id:Nat}{c:List PL}{ty:Nat}(h:H[id]? =some ⟨false,0,12,[c.map .p],false,ty⟩):XA (n+1) (Xn H) (.own id 0 0 1)=some (.Xp [c]):=by
 have e:Xn H id=some ⟨false,0,12,[c.map .p],false,ty⟩:=h;have:=VK n (Xn H) [c];simp only[pc,Zr,ZE]at this;simp only[XA,e,YW,Yb,List.take_succ_cons,List.take_zero,this];rfl
theorem eC {B:Xs}(e:Std B){i n:Nat}{a b c d:PL}{m:List Nat}(u:m.length=8)(f:i<n)(x:n<100000):
  Xx B 103 [.one (.int .i64 (.ofNat i)),.one (.int .i64 (.ofNat n)),.agg [a,b,c,d],.agg (mo m)] (.one (.Xp (Xf ((List.replicate n .XC).set i (.Xp [a::b::c::d::mo m]))))):=by
 refine Xx.of (e.Wa _ _ rfl) (e.Xj.mono fun E K v=> ?_);have r:24*n<=lim:=by unfold lim;omega
 have s:n<=9223372036854775807:=by omega
 have t:=eA (cs:=List.replicate n PL.XC) (i:=i) (p:=.XC) (by rw[Yd,if_pos f]);have w:∀l,((pc (Xf (List.replicate n PL.XC))).set i l).take n=(pc (Xf (List.replicate n PL.XC))).set i l:=fun l=>Zd (by rw[ZT,Wl,Xr,Ys];exact Zh _)
 obtain⟨g,e1,e2,h,j,k,o,q,rfl⟩:=eight u;simp(decide:=true)only[Xm,Xq,reduceIte,Nat.reduceAdd,x103,r,s,kR,f,t,mo,w,Wl,Xr,ZT,Ys,Zh];rw[oT (zz (c:=a::b::c::d::mo [g,e1,e2,h,j,k,o,q]) (ty:=75) rfl)];rfl
theorem kX {B:Xs}(a:Std B){i j n k:Nat}(h:(i,j,n,k)=(0,1,2,0)\/(i,j,n,k)=(0,1,3,0)\/(i,j,n,k)=(0,2,3,1)\/(i,j,n,k)=(1,2,3,2)):
  Xx B 65 [.one (.int .i64 (.ofNat i)),.one (.int .i64 (.ofNat j)),.one (.int .i64 (.ofNat n))] (.one (.int .i64 (.ofNat k))):=by
 simp only[Zo]at h;rcases h with⟨rfl,rfl,rfl,rfl⟩|⟨rfl,rfl,rfl,rfl⟩|⟨rfl,rfl,rfl,rfl⟩|⟨rfl,rfl,rfl,rfl⟩<;>
 exact Xx.of (a.Wa _ _ rfl) (a.Xj.mono fun E K b=>rfl)
abbrev Fl (F V:PL)(n i:Nat):List (Nat×DV):=[(1,.one (.p F)),(6,.one (.own 0 0 0 n)),(14,.one (.p V)),(15,.one (.p (.int .i64 (.ofNat n)))),(16,.one (.p (.int .i64 (.ofNat i))))]
abbrev Cl (E:Xa)(F:PL)(p x:PL):Prop:=E.pure 78 [.one F,.one p]=some (.XZ [.one x,.one (.int .i64 (.ofNat 0))])
theorem xg {E:Xa}{K k i:Nat}(d:E.mode=md){F V p x:PL}{a b:List PL}(q:Sl V (Xf a))(e:a[i]? =some p)(r:b.length=a.length)(s:a.length<1000000)(j:Cl E F p x):
  Xb E K 0 [1,6,14,15,16] x66_1 (k+1) ⟨Fl F V a.length i,[wW b]⟩=Xb E K 0 [1,6,14,15,16] x66_1 k ⟨Fl F V a.length (i+1),[wW (b.set i x)]⟩:=by
 have c:i<a.length:=(Zb.mp e).1;have n:=fun(l:HF) (o:IntKind)=>q.idx (h:=l) (k:=o) (sz:=1) (XJ e) rfl
 have f:Xe .i64 (.ofNat (i+1))=.ofNat (i+1):=wrap_i64 (by omega);obtain⟨y,m⟩:∃y,b[i]? =some y:=⟨_,Zf (by omega)⟩;have g:=eA m;rw[Xb];simp(decide:=true)only[Xm,Xq,Vm,reduceIte,x66_1,d,X5,c,n,j,f,g,kq]
theorem Ew {E:Xa}{K:Nat}(g:E.mode=md){F V:PL}{b:List PL}(v:Sl V (Xf b))(t:b.length<1000000){rest a:List PL}(h:XF (Cl E F) rest a):∀(i k:Nat) (c:List PL),b.drop i=rest->i+rest.length=b.length->c.length=b.length->rest.length<k->
  ∃d,Xb E K 0 [1,6,14,15,16] x66_1 k ⟨Fl F V b.length i,[wW c]⟩=some (.exit 0,⟨d,[wW (c.take i++a)]⟩)/\Xh d 6=some (.one (.own 0 0 0 b.length)):=by
 induction h with
 |nil=>
  intro i k c _ e f m;obtain⟨k,rfl⟩:∃j,k=j+1:=⟨k-1,by omega⟩;simp only[Zu,Yk]at e;subst e;rw[ZS,Zd (by omega)];apply VE
  ·rw[Xb];simp only[Xm,Xq,reduceIte,Nat.reduceEqDiff,x66_1,Zx];rfl
  ·simp only[Xm,reduceIte,Nat.reduceEqDiff]
 |@cons p x rest a r h u=>
  intro i k c s e f m;obtain⟨k,rfl⟩:∃j,k=j+1:=⟨k-1,by omega⟩;simp only[Zi]at e m;obtain⟨q,n⟩:=Xi s;rw[xg g v q f t r];obtain⟨d,l,o⟩:=u (i+1) k (c.set i x) n (by omega) (by simpa using f) (by omega);rw[bk (by omega),Zq]at l;exact⟨d,l,o⟩
theorem mT {B:Xs}(f:Std B){F V:PL}{b a:List PL}(i:Sl V (Xf b))(r:b.length<100000)(h:X1 B fun E _=>XF (Cl E F) b a):Xx B 66 [.one V,.one F] (.XZ [.one (.Xp (Xf a)),.one (.bool true)]):=by
 refine Xx.of (f.Wa _ _ rfl) ((h.and (f.Xj.and (X1.ge (b.length+1)))).mono fun E K ⟨d,c,q⟩=> ?_);obtain⟨p,e,m⟩:=Ew (K:=K) c i (by omega) d 0 K (List.replicate b.length .XC) rfl (by omega) (by simp) (by omega);have g:=i.len;rw[Xr]at g;simp only[Fl,List.take_zero,ZF]at e;have j:24*b.length<=lim:=by unfold lim;omega
 have k:b.length<=9223372036854775807:=by omega
 have s:=d.length;have l:b.length<=a.length:=by omega
 have o:(pc (Xf a)).take b.length=pc (Xf a):=VA (Xf a) (by rw[Xr];omega);have n:=fun h=>VK 5 h (Xf a)
 simp(decide:=true)only[Xm,Xq,Vg,reduceIte,Nat.reduceAdd,x66,g,j,k,kR,e,m,o,n,Wl,Xr,l]
abbrev Cr (cs:List PL):Xz:=⟨false,1,1,pc (Xf cs),false,33⟩
abbrev Fi (E:Xa)(c x o:PL):Prop:=E.pure 68 [.one c,.one x]=some (.one o)
inductive qg (E:Xa):List PL->List PL->List PL->Prop
 |nil:qg E [] [] []
 |cons {c x o:PL} {cs xs os:List PL} (h:Fi E c x o) (t:qg E cs xs os):qg E (c::cs) (x::xs) (o::os)
theorem qg.len {E:Xa}{a c b:List PL}(h:qg E a c b):c.length=a.length/\b.length=a.length:=by
 induction h with
 |nil=>exact⟨rfl,rfl⟩
 |cons _ _ d=>simp[d]
inductive gU (E:Xa):List PL->List PL->List PL->Prop
 |nil (cs:List PL):gU E cs [] cs
 |cons {cs xs cs1 out rest:List PL} {X:PL} (sx:Sl X (Xf xs)) (h:qg E cs xs cs1) (t:gU E cs1 rest out):gU E cs (X::rest) out
theorem gU.len {E:Xa}{b rest a:List PL}(h:gU E b rest a):a.length=b.length:=by
 induction h with
 |nil=>rfl
 |cons _ h _ c=>rw[c,h.len.2]
abbrev Fm (O X:PL)(n N j i:Nat):List (Nat×DV):=[(5,.one (.own 0 1 0 n)),(12,.one (.p O)),(13,.one (.p (.int .i64 (.ofNat N)))),(14,.one (.p (.int .i64 (.ofNat j)))),(18,.one (.p X)),(19,.one (.p (.int .i64 (.ofNat n)))),(20,.one (.p (.int .i64 (.ofNat i))))]
theorem xh {E:Xa}{K k i N j:Nat}(e:E.mode=md){O X c p x:PL}{a b:List PL}(s:Sl X (Xf a))(f:a[i]? =some p)(o:b[i]? =some c)(t:b.length=a.length)(u:a.length<1000000)(m:Fi E c p x):
  Xb E K 0 [5,12,13,14,18,19,20] x69_1 (k+1) ⟨Fm O X a.length N j i,[Cr b]⟩=Xb E K 0 [5,12,13,14,18,19,20] x69_1 k ⟨Fm O X a.length N j (i+1),[Cr (b.set i x)]⟩:=by
 have d:i<a.length:=(Zb.mp f).1;have q:=fun(n:HF) (r:IntKind)=>s.idx (h:=n) (k:=r) (sz:=1) (XJ f) rfl
 have g:Xe .i64 (.ofNat (i+1))=.ofNat (i+1):=wrap_i64 (by omega);have l:=eA o;rw[Xb];simp(decide:=true)only[Xm,Xq,Vm,reduceIte,x69_1,e,X5,d,q,m,g,l,kq]
theorem Ey {E:Xa}{K N j:Nat}(n:E.mode=md){O X:PL}{e:List PL}(C:Sl X (Xf e))(A:e.length<1000000){g rest a:List PL}(h:qg E g rest a):∀(i k:Nat) (d:List PL),e.drop i=rest->d.drop i=g->i+rest.length=e.length->d.length=e.length->rest.length<k->
  ∃b,Xb E K 0 [5,12,13,14,18,19,20] x69_1 k ⟨Fm O X e.length N j i,[Cr d]⟩=some (.exit 2,⟨b,[Cr (d.take i++a)]⟩)/\Xh b 5=some (.one (.own 0 1 0 e.length))/\Xh b 12=some (.one (.p O))/\Xh b 13=some (.one (.p (.int .i64 (.ofNat N))))/\Xh b 14=some (.one (.p (.int .i64 (.ofNat j)))):=by
 induction h with
 |nil=>
  intro i k d _ _ f l r;obtain⟨k,rfl⟩:∃o,k=o+1:=⟨k-1,by omega⟩;simp only[Zu,Yk]at f;subst f;rw[ZS,Zd (by omega)];apply VE
  ·rw[Xb];simp only[Xm,Xq,reduceIte,Nat.reduceEqDiff,x69_1,Zx];rfl
  ·simp only[Xm,reduceIte,Nat.reduceEqDiff,and_self]
 |@cons c p x g rest a y h B=>
  intro i k d z m f l r;obtain⟨k,rfl⟩:∃o,k=o+1:=⟨k-1,by omega⟩;simp only[Zi]at f r;obtain⟨v,s⟩:=Xi z;obtain⟨w,t⟩:=Xi m;rw[xh n C v w l A y];obtain⟨b,q,u⟩:=B (i+1) k (d.set i x) s (by rw[List.drop_set_of_lt (by omega)];exact t) (by omega) (by simpa using l) (by omega);rw[bk (by omega),Zq]at q;exact⟨b,q,u⟩
abbrev F5 (O:PL)(n N j:Nat):List (Nat×DV):=[(5,.one (.own 0 1 0 n)),(12,.one (.p O)),(13,.one (.p (.int .i64 (.ofNat N)))),(14,.one (.p (.int .i64 (.ofNat j))))]
theorem Ez {E:Xa}{K:Nat}(i:E.mode=md){O:PL}{c:List PL}(J:Sl O (Xf c))(D:c.length<1000000){a rest d:List PL}(h:gU E a rest d):∀(j k:Nat),c.drop j=rest->j+rest.length=c.length->a.length<1000000->a.length<K->rest.length<k->
  ∃e,Xb E K 0 [5,12,13,14] x69_2 k ⟨F5 O a.length c.length j,[Cr a]⟩=some (.exit 0,⟨e,[Cr d]⟩)/\Xh e 5=some (.one (.own 0 1 0 a.length)):=by
 induction h with
 |nil a=>
  intro j k _ f _ _ q;obtain⟨k,rfl⟩:∃l,k=l+1:=⟨k-1,by omega⟩;simp only[Zu,Yk]at f;subst f;apply VE
  ·rw[Xb];simp only[Xm,Xq,reduceIte,Nat.reduceEqDiff,x69_2,Zx];rfl
  ·simp only[Xm,reduceIte,Nat.reduceEqDiff]
 |@cons a Q u d rest X t p h F=>
  intro j k B f P M q;obtain⟨k,rfl⟩:∃l,k=l+1:=⟨k-1,by omega⟩;simp only[Zi]at f q;obtain⟨A,v⟩:=Xi B;have g:j<c.length:=by omega
  have G:=fun(C:HF) (H:IntKind)=>J.idx (h:=C) (k:=H) (sz:=1) (XJ A) rfl
  obtain⟨m,I⟩:=p.len;obtain⟨L,n,o,x,y,z⟩:=Ey (K:=K) (N:=c.length) (j:=j) (O:=O) i t (by omega) p 0 K a rfl rfl (by omega) (by omega) (by omega);obtain⟨e,r,s⟩:=F (j+1) k v (by omega) (by omega) (by omega) (by omega);have b:=t.len;rw[Xr,m]at b;have w:Xe .i64 (.ofNat (j+1))=.ofNat (j+1):=wrap_i64 (by omega);rw[I]at r s;refine⟨e,?_,s⟩;rw[Xb];simp only[Fm,m,List.take_zero,ZF]at n;rw[m]at o;simp(decide:=true)only[Xm,Xq,reduceIte,x69_2,g,G,b,n,o,x,y,z,w];exact r
theorem sb {B:Xs}(b:Std B){vs:List PL}(o:vs.length<1000000):
  S3 B 120 [.one (.p (.Xp (Xf vs)))] [] (.one (.own 0 1 0 vs.length)) [Cr vs]:=by
 have a:=fun(h:HF)=>(Sl.Xp (es:=Xf vs)).chunks (h:=h)
 have g:vs.length*24<=lim:=by unfold lim;omega
 have i:vs.length<=9223372036854775807:=by omega
 have m:VZ false [.one (.p (.Xp (Xf vs))),.one (.p .XC)]=some ⟨.one (.p (.bool false)),[],[],[]⟩:=rfl;have j:((Xf vs).map (·.map DL.p)).all (fun c=>decide (c.length=1))=true:=by
  rw[ZW];intro c f;simp only[Xf,ZQ]at f;obtain⟨d,⟨e,n,rfl⟩,rfl⟩:=f;rfl
 have k:((Xf vs).map (·.map DL.p)).length=vs.length:=by rw[ZP,Xr]
 refine S3.of (b.Wa _ _ rfl) (b.Xj.mono fun E K l=> ?_);simp only[Xm,Vm,Xq,reduceIte,Nat.reduceEqDiff,Nat.reduceLeDiff,x120,a,g,i,m,j,k,Cr,pc]
theorem fv {B:Xs}(b:Std B){O:PL}{vs os out:List PL}(g:Sl O (Xf os))(q:vs.length<100000)(m:os.length<100000)(h:X1 B fun E _=>gU E vs os out):Xx B 69 [.one (.Xp (Xf vs)),.one O] (.one (.Xp (Xf out))):=by
 have c:=sb b (vs:=vs) (by omega);refine Xx.of (b.Wa _ _ rfl) ((h.and (c.Xj.and (b.Xj.and (X1.ge (vs.length+os.length+1))))).mono fun E K ⟨d,i,a,p⟩=> ?_);obtain⟨o,e,k⟩:=Ez (K:=K) a g (by omega) d 0 K rfl (by omega) (by omega) (by omega) (by omega);have f:=g.len;rw[Xr]at f;have r:=d.len;have j:vs.length<=out.length:=by omega
 have n:(pc (Xf out)).take vs.length=pc (Xf out):=VA (Xf out) (by rw[Xr];omega);have l:=fun h=>VK 5 h (Xf out)
 simp only[F5]at e;simp(decide:=true)only[Xm,Xq,Vm,reduceIte,Nat.reduceAdd,x69,a,X5,f,i,e,k,n,l,Wl,Xr,j]
abbrev Ax (c:List PL)(m:List Nat):Xz:=⟨false,0,12,[c.map .p++Xu m],false,75⟩
abbrev CS (G lo V:PL)(i j:Int)(n k kk a b:Nat):List (Nat×DV):=[(1,.one (.p G)),(2,.one (.p lo)),(8,.one (.ptr 0 0 0 0)),(9,.one (.p (.int .i64 i))),(10,.one (.p (.int .i64 j))),(11,.one (.ptr 1 0 0 0)),(12,.one (.p (.int .i64 (.ofNat kk)))),(14,.one (.ptr a 0 0 0)),(16,.one (.ptr b 0 0 0)),(20,.one (.p V)),(21,.one (.p (.int .i64 (.ofNat n)))),(22,.one (.p (.int .i64 (.ofNat k))))]
theorem mQ {E:Xa}{K k n q kk:Nat}{G lo V c1 c2 c3 c4 d1 d2 d3 d4:PL}{i j:Int}{m s:List Nat}(d:XE m)(e:XE s)(P:List Xz):
  ∃a,Xb E K 0 [1,2,8,9,10,11,12,14,16,20,21,22,44] x60_1 (k+9) ⟨CS G lo V i j n q kk P.length (P.length+1)++[(44,.one (.p (.int .i64 (.ofNat 0))))],P++[Ax [c1,c2,c3,c4] m,Ax [d1,d2,d3,d4] s]⟩=some (.exit 2,⟨a,P++[Ax [c1,c2,c3,c4] (Xg m s),Ax [d1,d2,d3,d4] s]⟩)/\
  Xh a 1=some (.one (.p G))/\Xh a 2=some (.one (.p lo))/\Xh a 8=some (.one (.ptr 0 0 0 0))/\Xh a 9=some (.one (.p (.int .i64 i)))/\Xh a 10=some (.one (.p (.int .i64 j)))/\Xh a 11=some (.one (.ptr 1 0 0 0))/\Xh a 12=some (.one (.p (.int .i64 (.ofNat kk))))/\Xh a 14=some (.one (.ptr P.length 0 0 0))/\Xh a 20=some (.one (.p V))/\Xh a 21=some (.one (.p (.int .i64 (.ofNat n))))/\Xh a 22=some (.one (.p (.int .i64 (.ofNat q)))):=by
 obtain⟨f,b⟩:=d;obtain⟨J,c⟩:=e;obtain⟨L,M,N,O,Q,R,S,T,rfl⟩:=eight f;obtain⟨U,W,X,Y,Z,b5,b6,b7,rfl⟩:=eight J;simp only[Zj,Z0,or_false,forall_eq_or_imp,forall_eq]at b c;obtain⟨g,h,l,o,r,t,u,v⟩:=b;obtain⟨z,A,B,C,D,F,H,I⟩:=c;have w:∀{x y:Nat},x<=65535->y<=65535->Xe .i64 (.ofNat (x+y))=.ofNat (x+y):=fun hx hy=>wrap_i64 (by omega)
 apply VE
 ·simp(decide:=true)only[Xb,Xm,Xq,Vg,reduceIte,Nat.reduceEqDiff,Nat.reduceAdd,x60_1,CS,Ax,Xu,W5,We,Wg,Zt,ZX,w1,w g z,w h A,w l B,w o C,w r D,w t F,w u H,w v I];rfl
 ·simp only[Xm,reduceIte,Nat.reduceEqDiff,and_self]
abbrev sG (G lo V:PL)(i j:Int)(n k:Nat):List (Nat×DV):=[(1,.one (.p G)),(2,.one (.p lo)),(8,.one (.ptr 0 0 0 0)),(9,.one (.p (.int .i64 i))),(10,.one (.p (.int .i64 j))),(11,.one (.ptr 1 0 0 0)),(20,.one (.p V)),(21,.one (.p (.int .i64 (.ofNat n)))),(22,.one (.p (.int .i64 (.ofNat k))))]
abbrev uK:List Nat:=[1,2,8,9,10,11,20,21,22]
def Q1 (o:List (List Int))(i j:Int)(tp:List Nat)(k:Nat)(m:List Nat):Int×Int×List Nat:=
 if i=.negSucc 0 then(.ofNat k,.negSucc 0,m)
 else if WC o m tp=.ofNat 1 then(.ofNat k,.negSucc 0,m)
 else if WC o m tp=.ofNat 0 then(if j=.negSucc 0 then(i,.ofNat k,tp)else(i,j,tp))
 else(i,j,tp)
abbrev NH (E:Xa)(lo p t1 t2 t3 t4:PL)(m:List Nat)(b:Bool):Prop:=E.pure 61 [.one p,.one lo]=some (.XZ [.agg (t1::t2::t3::t4::mo m),.one (.bool b)])
theorem AM {E:Xa}{K k a:Nat}(d:E.mode=md){G e V p w x y z:PL}{b:List PL}(v:Sl V (Xf b))(g:b[a]? =some p)(L:b.length<1000000){i j:Int}{m l:List Nat}(u:m.length=8)(q:NH E e p w x y z m false)(R:Xz)(f:List Xz):
  ∃n,Xb E K 0 uK x60_2 (k+1) ⟨sG G e V i j b.length a,R::aS l::f⟩=Xb E K 0 uK x60_2 k ⟨sG G e V i j b.length (a+1),R::aS l::(f++n)⟩:=by
 have c:a<b.length:=(Zb.mp g).1;have s:=fun(r:HF) (t:IntKind)=>v.idx (h:=r) (k:=t) (sz:=1) (XJ g) rfl
 have o:Xe .i64 (.ofNat (a+1))=.ofNat (a+1):=wrap_i64 (by omega);obtain⟨A,B,C,D,F,H,I,J,rfl⟩:=eight u;apply Exists.intro;rw[Xb];simp(decide:=true)only[Xm,Xq,Vm,reduceIte,Nat.reduceLeDiff,Nat.reduceAdd,x60_2,d,X5,c,s,q,o,mo,We,Wg,Zk];rfl
theorem xr {E:Xa}{K k kk:Nat}(l:E.mode=md){G lo V p q D F H I z A B C:PL}{a v:List PL}(sv:Sl V (Xf a))(sg:Sl G (Xf v))(x:a[kk]? =some p)(Y:v[kk]? =some q)(hl:a.length<1000000){j:Int}{m s r:List Nat}(w:XE m)(y:XE s)(Z:r.length=8)(W:NH E lo p D F H I m true){b:Bool}(X:NH E lo q z A B C s b)(R:Xz)(c:List Xz):
  ∃J,Xb E (K+9) 0 uK x60_2 (k+1) ⟨sG G lo V (.negSucc 0) (j) a.length kk,R::aS r::c⟩=Xb E (K+9) 0 uK x60_2 k ⟨sG G lo V (.ofNat kk) (.negSucc 0) a.length (kk+1),R::aS (Xg m s)::(c++J)⟩:=by
 have g:kk<a.length:=(Zb.mp x).1;have ip:=fun(f:HF) (o:IntKind)=>sv.idx (h:=f) (k:=o) (sz:=1) (XJ x) rfl
 have iq:=fun(f:HF) (o:IntKind)=>sg.idx (h:=f) (k:=o) (sz:=1) (XJ Y) rfl
 have L:Xe .i64 (.ofNat (kk+1))=.ofNat (kk+1):=wrap_i64 (by omega);obtain⟨T',t,M,N,O,P,Q,S,T,u,U,d,e⟩:=mQ (E:=E) (K:=K+9) (k:=K) (n:=a.length) (q:=kk) (kk:=kk) (G:=G) (lo:=lo) (V:=V) (c1:=D) (c2:=F) (c3:=H) (c4:=I) (d1:=z) (d2:=A) (d3:=B) (d4:=C) (i:=.negSucc 0) (j:=j) w y (R::aS r::c);obtain⟨a0,a1,a2,a3,a4,a5,a6,a7,rfl⟩:=eight w.1;obtain⟨b0,b1,b2,b3,b4,b5,b6,b7,rfl⟩:=eight y.1;obtain⟨e0,e1,e2,e3,e4,e5,e6,e7,rfl⟩:=eight Z;simp only[CS,Ax,Xu,Zr,ZE,ZI,ZF,Zi,Xg,Zw,Z1]at t u;apply Exists.intro;rw[Xb];simp(decide:=true)only[Xm,Xq,Vg,Vm,reduceIte,Nat.reduceEqDiff,Nat.reduceLeDiff,Nat.reduceAdd,x60_2,l,X5,g,ip,iq,W,X,L,mo,Xu,Xg,Zw,Z1,W5,VD,We,Wg,Zq,Zk,Zt,t,M,N,O,P,Q,S,T,u,U,d,e];rfl
theorem EC {E:Xa}{K k kk:Nat}(r:E.mode=md){G lo V p q H I J L B C D F:PL}{c w:List PL}(sv:Sl V (Xf c))(sg:Sl G (Xf w))(z:c[kk]? =some p)(hq:w[kk]? =some q)(hl:c.length<1000000){a:Nat}{j:Int}{m s d:List Nat}(y:XE m)(A:XE s)(ht:d.length=8)(Y:NH E lo p H I J L m true){b:Bool}(Z:NH E lo q B C D F s b)(x:E.pure 114 [.one lo,.agg (mo (Xg m s)),.agg (mo d)]=some (.one (.int .i64 (.ofNat 1))))(R:Xz)(e:List Xz):
  ∃M,Xb E (K+9) 0 uK x60_2 (k+1) ⟨sG G lo V (.ofNat a) (j) c.length kk,R::aS d::e⟩=Xb E (K+9) 0 uK x60_2 k ⟨sG G lo V (.ofNat kk) (.negSucc 0) c.length (kk+1),R::aS (Xg m s)::(e++M)⟩:=by
 have o:kk<c.length:=(Zb.mp z).1;have ip:=fun(l:HF) (t:IntKind)=>sv.idx (h:=l) (k:=t) (sz:=1) (XJ z) rfl
 have iq:=fun(l:HF) (t:IntKind)=>sg.idx (h:=l) (k:=t) (sz:=1) (XJ hq) rfl
 have N:Xe .i64 (.ofNat (kk+1))=.ofNat (kk+1):=wrap_i64 (by omega);obtain⟨T',u,O,P,Q,S,T,U,W,v,X,f,g⟩:=mQ (E:=E) (K:=K+9) (k:=K) (n:=c.length) (q:=kk) (kk:=kk) (G:=G) (lo:=lo) (V:=V) (c1:=H) (c2:=I) (c3:=J) (c4:=L) (d1:=B) (d2:=C) (d3:=D) (d4:=F) (i:=.ofNat a) (j:=j) y A (R::aS d::e);obtain⟨a0,a1,a2,a3,a4,a5,a6,a7,rfl⟩:=eight y.1;obtain⟨b0,b1,b2,b3,b4,b5,b6,b7,rfl⟩:=eight A.1;obtain⟨e0,e1,e2,e3,e4,e5,e6,e7,rfl⟩:=eight ht;simp only[CS,Ax,Xu,Zr,ZE,ZI,ZF,Zi,Xg,Zw,Z1]at u v;simp only[mo,Xg,Zw,Z1,Zr,ZE]at x;apply Exists.intro;rw[Xb];simp(decide:=true)only[Xm,Xq,Vg,Vm,reduceIte,Nat.reduceEqDiff,Nat.reduceLeDiff,Nat.reduceAdd,x60_2,r,X5,o,ip,iq,Y,Z,x,N,mo,Xu,Xg,Zw,Z1,W5,VD,We,Wg,Zq,Zk,Zt,u,O,P,Q,S,T,U,W,v,X,f,g];rfl
theorem EB {E:Xa}{K k kk:Nat}(r:E.mode=md){G lo V p q H I J L B C D F:PL}{c w:List PL}(sv:Sl V (Xf c))(sg:Sl G (Xf w))(z:c[kk]? =some p)(hq:w[kk]? =some q)(hl:c.length<1000000){a:Nat}{j:Int}{m s d:List Nat}(y:XE m)(A:XE s)(ht:d.length=8)(Y:NH E lo p H I J L m true){b:Bool}(Z:NH E lo q B C D F s b)(x:E.pure 114 [.one lo,.agg (mo (Xg m s)),.agg (mo d)]=some (.one (.int .i64 (.negSucc 0))))(R:Xz)(e:List Xz):
  ∃M,Xb E (K+9) 0 uK x60_2 (k+1) ⟨sG G lo V (.ofNat a) (j) c.length kk,R::aS d::e⟩=Xb E (K+9) 0 uK x60_2 k ⟨sG G lo V (.ofNat a) (j) c.length (kk+1),R::aS (d)::(e++M)⟩:=by
 have o:kk<c.length:=(Zb.mp z).1;have ip:=fun(l:HF) (t:IntKind)=>sv.idx (h:=l) (k:=t) (sz:=1) (XJ z) rfl
 have iq:=fun(l:HF) (t:IntKind)=>sg.idx (h:=l) (k:=t) (sz:=1) (XJ hq) rfl
 have N:Xe .i64 (.ofNat (kk+1))=.ofNat (kk+1):=wrap_i64 (by omega);obtain⟨T',u,O,P,Q,S,T,U,W,v,X,f,g⟩:=mQ (E:=E) (K:=K+9) (k:=K) (n:=c.length) (q:=kk) (kk:=kk) (G:=G) (lo:=lo) (V:=V) (c1:=H) (c2:=I) (c3:=J) (c4:=L) (d1:=B) (d2:=C) (d3:=D) (d4:=F) (i:=.ofNat a) (j:=j) y A (R::aS d::e);obtain⟨a0,a1,a2,a3,a4,a5,a6,a7,rfl⟩:=eight y.1;obtain⟨b0,b1,b2,b3,b4,b5,b6,b7,rfl⟩:=eight A.1;obtain⟨e0,e1,e2,e3,e4,e5,e6,e7,rfl⟩:=eight ht;simp only[CS,Ax,Xu,Zr,ZE,ZI,ZF,Zi,Xg,Zw,Z1]at u v;simp only[mo,Xg,Zw,Z1,Zr,ZE]at x;apply Exists.intro;rw[Xb];simp(decide:=true)only[Xm,Xq,Vm,reduceIte,Nat.reduceAdd,x60_2,r,X5,o,ip,iq,Y,Z,x,N,mo,Xu,W5,VD,We,Wg,Zq,Zk,Zt,u,O,P,Q,S,T,U,W,v,X,f,g];rfl
theorem EE {E:Xa}{K k kk:Nat}(r:E.mode=md){G lo V p q H I J L B C D F:PL}{c w:List PL}(sv:Sl V (Xf c))(sg:Sl G (Xf w))(z:c[kk]? =some p)(hq:w[kk]? =some q)(hl:c.length<1000000){a:Nat}{m s d:List Nat}(y:XE m)(A:XE s)(ht:d.length=8)(Y:NH E lo p H I J L m true){b:Bool}(Z:NH E lo q B C D F s b)(x:E.pure 114 [.one lo,.agg (mo (Xg m s)),.agg (mo d)]=some (.one (.int .i64 (.ofNat 0))))(R:Xz)(e:List Xz):
  ∃M,Xb E (K+9) 0 uK x60_2 (k+1) ⟨sG G lo V (.ofNat a) (.negSucc 0) c.length kk,R::aS d::e⟩=Xb E (K+9) 0 uK x60_2 k ⟨sG G lo V (.ofNat a) (.ofNat kk) c.length (kk+1),R::aS (d)::(e++M)⟩:=by
 have o:kk<c.length:=(Zb.mp z).1;have ip:=fun(l:HF) (t:IntKind)=>sv.idx (h:=l) (k:=t) (sz:=1) (XJ z) rfl
 have iq:=fun(l:HF) (t:IntKind)=>sg.idx (h:=l) (k:=t) (sz:=1) (XJ hq) rfl
 have N:Xe .i64 (.ofNat (kk+1))=.ofNat (kk+1):=wrap_i64 (by omega);obtain⟨T',u,O,P,Q,S,T,U,W,v,X,f,g⟩:=mQ (E:=E) (K:=K+9) (k:=K) (n:=c.length) (q:=kk) (kk:=kk) (G:=G) (lo:=lo) (V:=V) (c1:=H) (c2:=I) (c3:=J) (c4:=L) (d1:=B) (d2:=C) (d3:=D) (d4:=F) (i:=.ofNat a) (j:=.negSucc 0) y A (R::aS d::e);obtain⟨a0,a1,a2,a3,a4,a5,a6,a7,rfl⟩:=eight y.1;obtain⟨b0,b1,b2,b3,b4,b5,b6,b7,rfl⟩:=eight A.1;obtain⟨e0,e1,e2,e3,e4,e5,e6,e7,rfl⟩:=eight ht;simp only[CS,Ax,Xu,Zr,ZE,ZI,ZF,Zi,Xg,Zw,Z1]at u v;simp only[mo,Xg,Zw,Z1,Zr,ZE]at x;apply Exists.intro;rw[Xb];simp(decide:=true)only[Xm,Xq,Vm,reduceIte,Nat.reduceAdd,x60_2,r,X5,o,ip,iq,Y,Z,x,N,mo,Xu,W5,VD,We,Wg,Zq,Zk,Zt,u,O,P,Q,S,T,U,W,v,X,f,g];rfl
theorem CR {E:Xa}{K k kk:Nat}(t:E.mode=md){G lo V p q I J L M C D F H:PL}{d x:List PL}(sv:Sl V (Xf d))(sg:Sl G (Xf x))(A:d[kk]? =some p)(hq:x[kk]? =some q)(hl:d.length<1000000){a c:Nat}{m s e:List Nat}(z:XE m)(B:XE s)(ht:e.length=8)(Z:NH E lo p I J L M m true){b:Bool}(h2:NH E lo q C D F H s b)(y:E.pure 114 [.one lo,.agg (mo (Xg m s)),.agg (mo e)]=some (.one (.int .i64 (.ofNat 0))))(R:Xz)(f:List Xz):
  ∃N,Xb E (K+9) 0 uK x60_2 (k+1) ⟨sG G lo V (.ofNat a) (.ofNat c) d.length kk,R::aS e::f⟩=Xb E (K+9) 0 uK x60_2 k ⟨sG G lo V (.ofNat a) (.ofNat c) d.length (kk+1),R::aS (e)::(f++N)⟩:=by
 have r:kk<d.length:=(Zb.mp A).1;have ip:=fun(o:HF) (u:IntKind)=>sv.idx (h:=o) (k:=u) (sz:=1) (XJ A) rfl
 have iq:=fun(o:HF) (u:IntKind)=>sg.idx (h:=o) (k:=u) (sz:=1) (XJ hq) rfl
 have O:Xe .i64 (.ofNat (kk+1))=.ofNat (kk+1):=wrap_i64 (by omega);obtain⟨T',v,P,Q,S,T,U,W,X,w,Y,g,l⟩:=mQ (E:=E) (K:=K+9) (k:=K) (n:=d.length) (q:=kk) (kk:=kk) (G:=G) (lo:=lo) (V:=V) (c1:=I) (c2:=J) (c3:=L) (c4:=M) (d1:=C) (d2:=D) (d3:=F) (d4:=H) (i:=.ofNat a) (j:=.ofNat c) z B (R::aS e::f);obtain⟨a0,a1,a2,a3,a4,a5,a6,a7,rfl⟩:=eight z.1;obtain⟨b0,b1,b2,b3,b4,b5,b6,b7,rfl⟩:=eight B.1;obtain⟨e0,e1,e2,e3,e4,e5,e6,e7,rfl⟩:=eight ht;simp only[CS,Ax,Xu,Zr,ZE,ZI,ZF,Zi,Xg,Zw,Z1]at v w;simp only[mo,Xg,Zw,Z1,Zr,ZE]at y;apply Exists.intro;rw[Xb];simp(decide:=true)only[Xm,Xq,Vm,reduceIte,Nat.reduceAdd,x60_2,t,X5,r,ip,iq,Z,h2,y,O,mo,Xu,W5,VD,We,Wg,Zq,Zk,Zt,Nat.not_lt_zero,v,P,Q,S,T,U,W,X,w,Y,g,l];rfl
inductive OU (E:Xa)(lo:PL):Nat->Int->Int->List Nat->List PL->List PL->Int->Int->List Nat->Prop
 |nil (k:Nat) (i j:Int) (tp:List Nat):OU E lo k i j tp [] [] i j tp
 |zero {k:Nat} {i j i' j':Int} {tp t' m:List Nat} {p q t1 t2 t3 t4:PL} {vs gs:List PL} (m8:m.length=8) (h1:NH E lo p t1 t2 t3 t4 m false) (h:OU E lo (k+1) i j tp vs gs i' j' t'):OU E lo k i j tp (p::vs) (q::gs) i' j' t'
 |first{k:Nat} {j i' j':Int} {tp t' m s:List Nat} {p q t1 t2 t3 t4 s1 s2 s3 s4:PL} {b:Bool} {vs gs:List PL} (hm:XE m) (hs:XE s) (h1:NH E lo p t1 t2 t3 t4 m true) (h2:NH E lo q s1 s2 s3 s4 s b) (h:OU E lo (k+1) (.ofNat k) (.negSucc 0) (Xg m s) vs gs i' j' t'):OU E lo k (.negSucc 0) j tp (p::vs) (q::gs) i' j' t'
 |gt {k a:Nat} {j i' j':Int} {tp t' m s:List Nat} {p q t1 t2 t3 t4 s1 s2 s3 s4:PL} {b:Bool} {vs gs:List PL} (hm:XE m) (hs:XE s) (h1:NH E lo p t1 t2 t3 t4 m true) (h2:NH E lo q s1 s2 s3 s4 s b) (h3:E.pure 114 [.one lo,.agg (mo (Xg m s)),.agg (mo tp)]=some (.one (.int .i64 (.ofNat 1)))) (h:OU E lo (k+1) (.ofNat k) (.negSucc 0) (Xg m s) vs gs i' j' t'):OU E lo k (.ofNat a) j tp (p::vs) (q::gs) i' j' t'
 |lt {k a:Nat} {j i' j':Int} {tp t' m s:List Nat} {p q t1 t2 t3 t4 s1 s2 s3 s4:PL} {b:Bool} {vs gs:List PL} (hm:XE m) (hs:XE s) (h1:NH E lo p t1 t2 t3 t4 m true) (h2:NH E lo q s1 s2 s3 s4 s b) (h3:E.pure 114 [.one lo,.agg (mo (Xg m s)),.agg (mo tp)]=some (.one (.int .i64 (.negSucc 0)))) (h:OU E lo (k+1) (.ofNat a) j tp vs gs i' j' t'):OU E lo k (.ofNat a) j tp (p::vs) (q::gs) i' j' t'
 |eq {k a:Nat} {i' j':Int} {tp t' m s:List Nat} {p q t1 t2 t3 t4 s1 s2 s3 s4:PL} {b:Bool} {vs gs:List PL} (hm:XE m) (hs:XE s) (h1:NH E lo p t1 t2 t3 t4 m true) (h2:NH E lo q s1 s2 s3 s4 s b) (h3:E.pure 114 [.one lo,.agg (mo (Xg m s)),.agg (mo tp)]=some (.one (.int .i64 (.ofNat 0)))) (h:OU E lo (k+1) (.ofNat a) (.ofNat k) tp vs gs i' j' t'):OU E lo k (.ofNat a) (.negSucc 0) tp (p::vs) (q::gs) i' j' t'
 |Gf {k a c:Nat} {i' j':Int} {tp t' m s:List Nat} {p q t1 t2 t3 t4 s1 s2 s3 s4:PL} {b:Bool} {vs gs:List PL} (hm:XE m) (hs:XE s) (h1:NH E lo p t1 t2 t3 t4 m true) (h2:NH E lo q s1 s2 s3 s4 s b) (h3:E.pure 114 [.one lo,.agg (mo (Xg m s)),.agg (mo tp)]=some (.one (.int .i64 (.ofNat 0)))) (h:OU E lo (k+1) (.ofNat a) (.ofNat c) tp vs gs i' j' t'):OU E lo k (.ofNat a) (.ofNat c) tp (p::vs) (q::gs) i' j' t'
theorem ED {E:Xa}{K:Nat}(d:E.mode=md){G O V:PL}{F L:List PL}(B:Sl V (Xf F))(D:Sl G (Xf L))(z:F.length<1000000)(R:Xz){A:Nat}{i j M N:Int}{I J:List Nat}{H P:List PL}(h:OU E O A i j I H P M N J):I.length=8->F.drop A=H->L.drop A=P->A+H.length=F.length->∀(k:Nat) (b:List Xz),H.length<k->
  ∃C x,Xb E (K+9) 0 uK x60_2 k ⟨sG G O V i j F.length A,R::aS I::b⟩=some (.exit 0,⟨C,R::aS J::x⟩)/\J.length=8/\Xh C 8=some (.one (.ptr 0 0 0 0))/\Xh C 9=some (.one (.p (.int .i64 M)))/\Xh C 10=some (.one (.p (.int .i64 N)))/\Xh C 11=some (.one (.ptr 1 0 0 0)):=by
 induction h with
 |nil A i j I=>
  intro a _ _ c k b g;obtain⟨k,rfl⟩:∃f,k=f+1:=⟨k-1,by omega⟩;simp only[Zu,Yk]at c;subst c;apply AD
  ·rw[Xb];simp only[Xm,Xq,reduceIte,Nat.reduceEqDiff,x60_2,Zx];rfl
  ·refine⟨a,?_⟩;simp only[Xm,reduceIte,Nat.reduceEqDiff,and_self]
 |zero Q o h u=>
  intro a t q c k b g;obtain⟨k,rfl⟩:∃f,k=f+1:=⟨k-1,by omega⟩;simp only[Zi]at c g;obtain⟨n,l⟩:=Xi t;obtain⟨v,m⟩:=Xi q;obtain⟨x,e⟩:=AM (K:=K+9) (k:=k) d (G:=G) B n z Q o R b;rw[e];exact u a l m (by omega) k _ (by omega)
 |first r s o w h u=>
  intro a t q c k b g;obtain⟨k,rfl⟩:∃f,k=f+1:=⟨k-1,by omega⟩;simp only[Zi]at c g;obtain⟨n,l⟩:=Xi t;obtain⟨v,m⟩:=Xi q;obtain⟨x,e⟩:=xr (K:=K) (k:=k) d B D n v z r s a o w R b;rw[e];exact u (VU r.1 s.1) l m (by omega) k _ (by omega)
 |gt r s o w y h u=>
  intro a t q c k b g;obtain⟨k,rfl⟩:∃f,k=f+1:=⟨k-1,by omega⟩;simp only[Zi]at c g;obtain⟨n,l⟩:=Xi t;obtain⟨v,m⟩:=Xi q;obtain⟨x,e⟩:=EC (K:=K) (k:=k) d B D n v z r s a o w y R b;rw[e];exact u (VU r.1 s.1) l m (by omega) k _ (by omega)
 |lt r s o w y h u=>
  intro a t q c k b g;obtain⟨k,rfl⟩:∃f,k=f+1:=⟨k-1,by omega⟩;simp only[Zi]at c g;obtain⟨n,l⟩:=Xi t;obtain⟨v,m⟩:=Xi q;obtain⟨x,e⟩:=EB (K:=K) (k:=k) d B D n v z r s a o w y R b;rw[e];exact u a l m (by omega) k _ (by omega)
 |eq r s o w y h u=>
  intro a t q c k b g;obtain⟨k,rfl⟩:∃f,k=f+1:=⟨k-1,by omega⟩;simp only[Zi]at c g;obtain⟨n,l⟩:=Xi t;obtain⟨v,m⟩:=Xi q;obtain⟨x,e⟩:=EE (K:=K) (k:=k) d B D n v z r s a o w y R b;rw[e];exact u a l m (by omega) k _ (by omega)
 |Gf r s o w y h u=>
  intro a t q c k b g;obtain⟨k,rfl⟩:∃f,k=f+1:=⟨k-1,by omega⟩;simp only[Zi]at c g;obtain⟨n,l⟩:=Xi t;obtain⟨v,m⟩:=Xi q;obtain⟨x,e⟩:=CR (K:=K) (k:=k) d B D n v z r s a o w y R b;rw[e];exact u a l m (by omega) k _ (by omega)
theorem uL {B:Xs}(e:Std B){V G g:PL}{a d:List PL}(k:Sl V (Xf a))(t:Sl G (Xf d))(I:a.length<100000){i j:Int}{l:List Nat}(h:X1 B fun E _=>OU E g 0 (.negSucc 0) (.negSucc 0) Tp a d i j l):Xx B 60 [.one V,.one G,.one g] (.XZ [.one (.int .i64 i),.one (.int .i64 j),.agg (mo l)]):=by
 refine Xx.of (e.Wa _ _ rfl) ((h.and (e.Xj.and (X1.ge (a.length+10)))).mono fun E K ⟨n,b,H⟩=> ?_);obtain⟨K,rfl⟩:∃m,K=m+9:=⟨K-9,by omega⟩;obtain⟨v,u,c,s,o,p,q,r⟩:=ED (K:=K) b k t (by omega) (aS Tp) n rfl rfl rfl (by omega) (K+9) [] (by omega);have f:=k.len;rw[Xr]at f;obtain⟨w,x,y,z,A,C,D,F,rfl⟩:=eight s;simp only[sG,aS,Xu,Tp,Zr,ZE]at c;simp(decide:=true)only[Xm,Xq,Vg,reduceIte,Nat.reduceEqDiff,Nat.reduceLeDiff,Nat.reduceAdd,x60,f,c,o,p,q,r,mo]
theorem wZ {B:Xs}(b:Std B){p:PL}{f:List Qm}(e:PQ p f):Xx B 51 [.one p] (.one (.bool (decide (f.length=0)))):=by
 obtain⟨h,g,a⟩:=e;have c:=g.len;rw[a.length]at c;refine Xx.of (b.Wa _ _ rfl) (b.Xj.mono fun E K d=> ?_);simp only[Xm,Xq,reduceIte,Nat.reduceEqDiff,Nat.reduceLeDiff,x51,c]
abbrev Gx (L:PL)(n i:Nat):List (Nat×DV):=[(0,.one (.p L)),(1,.one (.p (.fn 51 []))),(7,.one (.p (.int .i64 (.ofNat n)))),(8,.one (.p (.int .i64 (.ofNat i))))]
abbrev Gg (E:Xa)(b:Bool)(p:PL):Prop:=E.pure 51 [.one p]=some (.one (.bool b))
theorem CB {E:Xa}{K:Nat}(a:E.mode=md){L:PL}{c:List PL}(r:Sl L (Xf c))(y:c.length<1000000):∀(rest:List PL) (d:List Bool),XF (fun b p=>Gg E b p) d rest->∀(i k:Nat),c.drop i=rest->i+rest.length=c.length->rest.length<k->
  ∃e g,Xb E K 0 [0,1,7,8] x94_1 k ⟨Gx L c.length i,[]⟩=some (e,⟨g,[]⟩)/\((d.any id=false/\e=.exit 0)\/(d.any id=true/\e=.ret/\∃j,Xh g 4=some (.one (.p (.int .i64 (.ofNat j))))))
 |[],_,.nil,i,k,_,hi,hk=>by
  obtain⟨k,rfl⟩:∃m,k=m+1:=⟨k-1,by omega⟩;simp only[Zu,Yk]at hi;subst hi;refine⟨.exit 0,?_⟩;apply VE
  ·rw[Xb];simp only[Xm,Xq,reduceIte,Nat.reduceEqDiff,x94_1,Zx];rfl
  ·exact .inl ⟨rfl,rfl⟩
 |p::rest,b::d,.cons h1 h,i,k,hd,hi,hk=>by
  obtain⟨k,rfl⟩:∃m,k=m+1:=⟨k-1,by omega⟩;simp only[Zi]at hi hk;obtain⟨w,s⟩:=Xi hd;have f:i<c.length:=by omega
  have q:=fun(x:HF) (z:IntKind)=>r.idx (h:=x) (k:=z) (sz:=1) (XJ w) rfl
  have t:Xe .i64 (.ofNat (i+1))=.ofNat (i+1):=wrap_i64 (by omega);have n:∀(h:HF) (l:DL),SA E h [.one (.p (.fn 51 [])),.one l]=Vk E h 51 [.one l]:=fun h l=>rfl
  have o:∀(l:DL),XK E .TF [.one (.p (.fn 51 [])),.one l]=Ue E 51:=fun l=>rfl
  have A:Xk E .TF=false:=rfl;cases b with
  |true=>
   refine⟨.ret,?_⟩;apply VE
   ·rw[Xb];simp(decide:=true)only[Xm,Xq,reduceIte,x94_1,a,X5,f,q,h1,n,o];rfl
   ·exact .inr ⟨rfl,rfl,i,by simp only[Xm,reduceIte,Nat.reduceEqDiff]⟩
  |false=>
   obtain⟨e,g,u,v⟩:=CB a r y rest d h (i+1) k s (by omega) (by omega);refine⟨e,g,?_,v⟩;rw[Xb];simp(decide:=true)only[Xm,Xq,reduceIte,x94_1,a,X5,f,q,h1,t,n,o];exact u
theorem iL {B:Xs}(c:Std B):∀{d:List PL} {a:List (List Qm)},Ut d a->X1 B fun E _=>XF (fun b p=>Gg E b p) (a.map fun f=>decide (f.length=0)) d
 |[],_,.nil=>X1.of fun _ _=>.nil
 |_::_,_::_,.cons h t=>((wZ c h).Xj.and (iL c t)).mono fun _ _ ⟨e1,e2⟩=>.cons e1 e2
theorem lU {B:Xs}(d:Std B){L:PL}{e:List PL}{g:List (List Qm)}(m:Sl L (Xf e))(s:Ut e g)(x:e.length<100000):
  Xx B 52 [.one L,.one (.fn 51 [])] (.one (.bool ((g.map fun f=>decide (f.length=0)).any id))):=by
 have t:∃r,Xx B 94 [.one L,.one (.fn 51 [])] (.one (.int .i64 r))/\tQ (.ofNat 0) r=(g.map fun f=>decide (f.length=0)).any id:=by
  obtain⟨r,h,i⟩:=Xx.yK (p:=fun r=>∃z,r=.one (.int .i64 z)/\tQ (.ofNat 0) z=(g.map fun f=>decide (f.length=0)).any id) (d.Wa 94 _ rfl) (a:=[.one L,.one (.fn 51 [])]) (((iL d s).and (d.Xj.and (X1.ge (e.length+1)))).mono fun E K ⟨n,b,w⟩=>by
   obtain⟨v,u,l,c⟩:=CB (K:=K) b m (by omega) e _ n 0 K rfl (by omega) (by omega);have k:=m.len;rw[Xr]at k;rcases c with⟨c,rfl⟩|⟨c,rfl,j,o⟩
   ·refine⟨_,?_,.negSucc 0,rfl,by rw[c];rfl⟩;simp only[Xm,Xq,reduceIte,Nat.reduceEqDiff,Nat.reduceLeDiff,Nat.reduceAdd,x94,k,l]
   ·refine⟨_,?_,.ofNat j,rfl,by rw[c];rfl⟩;simp only[Xm,Xq,reduceIte,Nat.reduceEqDiff,Nat.reduceLeDiff,Nat.reduceAdd,x94,k,l,o])
  obtain⟨z,rfl,q⟩:=i;exact⟨z,h,q⟩
 obtain⟨r,h,i⟩:=t;refine Xx.of (d.Wa _ _ rfl) ((h.Xj.and d.Xj).mono fun E K ⟨e1,b⟩=> ?_);rw[<-i];simp only[Xm,reduceIte,Nat.reduceEqDiff,Nat.reduceLeDiff,Nat.reduceAdd,Xq,x52,b,X5,e1]
structure p7 (E:Xa)(G lo p q:PL)(i j n:Nat)(xs:List PL):Prop where
 ex:∃s Q R a1 a2 a3 a4 b1 b2 b3 b4 x1 x2 x3 x4 y1 y2 y3 y4 z1 z2 z3 z4 U W M m m' l u w,m.length=8/\m'.length=8/\l.length=8/\u.length=8/\w.length=8/\
  E.pure 100 [.one p,.one q,.one lo]=some (.XZ [.one s,.one (.int .i64 (.ofNat 0))])/\
  E.pure 101 [.one s,.one G,.one lo]=some (.XZ [.one Q,.one R,.one (.int .i64 (.ofNat 0))])/\
  NH E lo p a1 a2 a3 a4 m true/\NH E lo q b1 b2 b3 b4 m' true/\
  E.pure 63 [.agg (mo m),.agg (mo m')]=some (.agg (mo l))/\
  E.pure 62 [.agg (mo l),.agg (mo m)]=some (.XZ [.agg (mo u),.one (.bool true)])/\
  E.pure 62 [.agg (mo l),.agg (mo m')]=some (.XZ [.agg (mo w),.one (.bool true)])/\
  E.pure 102 [.agg [a1,a2,a3,a4]]=some (.XZ [.agg [x1,x2,x3,x4],.one (.int .i64 (.ofNat 0))])/\
  E.pure 102 [.agg [b1,b2,b3,b4]]=some (.XZ [.agg [y1,y2,y3,y4],.one (.int .i64 (.ofNat 0))])/\
  E.pure 103 [.one (.int .i64 (.ofNat i)),.one (.int .i64 (.ofNat n)),.agg [x1,x2,x3,x4],.agg (mo u)]=some (.one U)/\
  E.pure 104 [.agg [y1,y2,y3,y4]]=some (.agg [z1,z2,z3,z4])/\
  E.pure 103 [.one (.int .i64 (.ofNat j)),.one (.int .i64 (.ofNat n)),.agg [z1,z2,z3,z4],.agg (mo w)]=some (.one W)/\
  E.pure 105 [.one Q]=some (.one M)/\
  E.pure 69 [.one U,.one (.Xp [[W],[M]])]=some (.one (.Xp (Xf xs)))
abbrev Cu (G lo p:PL)(L:DL)(n i j:Nat):List (Nat×DV):=[(0,.one (.p G)),(1,.one (.p lo)),(6,.one L),(7,.one (.p (.int .i64 (.ofNat i)))),(8,.one (.p p)),(9,.one (.p (.int .i64 (.ofNat j)))),(27,.one (.p G)),(28,.one (.p (.int .i64 (.ofNat n)))),(29,.one (.p (.int .i64 (.ofNat i))))]
abbrev C1:List Nat:=[0,1,6,7,8,9,27,28,29]
abbrev EH (v:Nat)(o:List PL):Xz:=⟨false,v,1,pc (Xf o),false,30⟩
theorem nM (a:List PL)(r:PL):pc (Xf a)++[[.p r]]=pc (Xf (a++[r])):=by simp[pc,Xf]
theorem FC {d e f:Type}{p q:d->e->f->Prop}{a:d}{b:e}{c:f}(h:p a b c)(k:q a b c):∃a b c,p a b c/\q a b c:=⟨a,b,c,h,k⟩
theorem CZ {E:Xa}{K k i j:Nat}(y:E.mode=md){G z p q:PL}{b C:List PL}(S:Sl G (Xf b))(P:b[j]? =some q)(hl:b.length<1000000)(h:p7 E G z p q i j b.length C)(H:List Xz){d v:Nat}{o:List PL}(O:H[d]? =some (EH v o))(ho:o.length<1000000):
  ∃T,Xb E K 0 C1 x54_1 (k+1) ⟨Cu G z p (.own d v 0 o.length) b.length i j,H⟩=Xb E K 0 C1 x54_1 k ⟨Cu G z p (.own d (v+1) 0 (o++[PL.Xp (Xf C)]).length) b.length i (j+1),H.set d (EH (v+1) (o++[PL.Xp (Xf C)]))++T⟩:=by
 obtain⟨s,Q,R,a1,a2,a3,a4,b1,b2,b3,b4,x1,x2,x3,x4,y1,y2,y3,y4,z1,z2,z3,z4,U,W,M,m,m',l,u,w,m8,A,l8,u8,w8,h1,h2,D,F,I,J,N,h8,h9,c,g,e,n,r⟩:=h.ex;have t:j<b.length:=(Zb.mp P).1;have iq:=fun(hh:HF) (kd:IntKind)=>S.idx (h:=hh) (k:=kd) (sz:=1) (XJ P) rfl
 have a:=S.len;rw[Xr]at a;have B:∀V:List (List PL),(PL.Xp V).scalar=false:=fun _=>rfl
 have X:Xe .i64 (.ofNat (j+1))=.ofNat (j+1):=wrap_i64 (by omega);have f:d<H.length:=(Zb.1 O).1;have Z:∀L:List Xz,(H++L)[d]? =some (EH v o):=fun L=>by rw[ZB f];exact O
 have sd:∀(L:List Xz) (x:Xz),(H++L).set d x=H.set d x++L:=fun L x=>List.set_append_left _ _ f
 have q2:(o.length+1)*24<=lim:=by unfold lim;omega
 have q3:o.length+1<=9223372036854775807:=by omega
 have k5:¬(H.length+5<=H.length):=by omega
 have k6:¬(H.length+6<=H.length):=by omega
 have e1:¬(H.length+7=d):=by omega
 have e2:¬(d=H.length+7):=by omega
 rw[Zk,ZR];obtain⟨c0,c1,c2,c3,c4,c5,c6,c7,rfl⟩:=eight m8;obtain⟨d0,d1,d2,d3,d4,d5,d6,d7,rfl⟩:=eight A;obtain⟨r0,r1,r2,r3,r4,r5,r6,r7,rfl⟩:=eight l8;obtain⟨f0,Y,f2,f3,f4,f5,f6,f7,rfl⟩:=eight u8;obtain⟨g0,g1,g2,g3,g4,g5,g6,g7,rfl⟩:=eight w8;simp only[NH,mo,Zr,ZE]at D F I J N c e;apply Exists.intro
 ·rw[Xb];simp(decide:=true)only[Xm,Xq,Vg,Vm,reduceIte,Nat.reduceEqDiff,Nat.reduceLeDiff,Nat.reduceAdd,x54_1,y,X5,t,iq,a,h1,h2,D,F,I,J,N,h8,h9,c,g,e,n,r,X,k5,k6,e1,e2,ZT,Z,sd,q2,q3,Wl,Xr,nM,W5,VD,We,Wg,Zq,Zk,Zt,B];rfl
theorem C0 {E:Xa}{K k i j:Nat}(r:E.mode=md){G t p q:PL}{b L:List PL}(J:Sl G (Xf b))(I:b[j]? =some q)(hl:b.length<1000000)(h:p7 E G t p q i j b.length L)(H:List Xz):
  ∃z d v,Xb E K 0 C1 x54_1 (k+1) ⟨Cu G t p (.p .XC) b.length i j,H⟩=Xb E K 0 C1 x54_1 k ⟨Cu G t p (.own d v 0 1) b.length i (j+1),H++z⟩/\(H++z)[d]? =some (EH v [PL.Xp (Xf L)]):=by
 obtain⟨s,Q,R,a1,a2,a3,a4,b1,b2,b3,b4,x1,x2,x3,x4,y1,y2,y3,y4,z1,z2,z3,z4,U,W,M,m,m',l,u,w,m8,x,l8,u8,w8,S,T,A,B,C,D,F,V,X,c,f,e,g,n⟩:=h.ex;have o:j<b.length:=(Zb.mp I).1;have Z:=fun(Y:HF) (kd:IntKind)=>J.idx (h:=Y) (k:=kd) (sz:=1) (XJ I) rfl
 have a:=J.len;rw[Xr]at a;have y:∀N:List (List PL),(PL.Xp N).scalar=false:=fun _=>rfl
 have O:Xe .i64 (.ofNat (j+1))=.ofNat (j+1):=wrap_i64 (by omega);have k5:¬(H.length+5<=H.length):=by omega
 have k6:¬(H.length+6<=H.length):=by omega
 obtain⟨c0,c1,c2,c3,c4,c5,c6,c7,rfl⟩:=eight m8;obtain⟨d0,d1,d2,d3,d4,d5,d6,d7,rfl⟩:=eight x;obtain⟨r0,r1,r2,r3,r4,r5,r6,r7,rfl⟩:=eight l8;obtain⟨f0,P,f2,f3,f4,f5,f6,f7,rfl⟩:=eight u8;obtain⟨g0,g1,g2,g3,g4,g5,g6,g7,rfl⟩:=eight w8;simp only[NH,mo,Zr,ZE]at A B C D F c e;apply FC
 ·rw[Xb];simp(decide:=true)only[Xm,Xq,Vg,Vm,reduceIte,Nat.reduceEqDiff,Nat.reduceLeDiff,Nat.reduceAdd,x54_1,r,X5,o,Z,a,S,T,A,B,C,D,F,V,X,c,f,e,g,n,O,WQ,k5,k6,W5,VD,We,Wg,Zq,Zk,Zt,y];rfl
 ·rw[W5];rfl
abbrev oi (xss:List (List PL)):List PL:=xss.map fun xs=>.Xp (Xf xs)
def Em (H:List Xz)(L:DL)(o:List PL):Prop:=(L=.p .XC/\o=[])\/∃d v,L=.own d v 0 o.length/\H[d]? =some (EH v o)
inductive NF (E:Xa)(G lo p:PL)(i n:Nat):Nat->List PL->List (List PL)->Prop
 |nil (j:Nat):NF E G lo p i n j [] []
 |cons {j:Nat} {q:PL} {qs xs:List PL} {xss:List (List PL)} (h:p7 E G lo p q i j n xs) (t:NF E G lo p i n (j+1) qs xss):NF E G lo p i n j (q::qs) (xs::xss)
inductive ND (E:Xa)(G lo:PL)(n:Nat):Nat->List PL->List (List PL)->Prop
 |nil (i:Nat):ND E G lo n i [] []
 |cons {i:Nat} {p:PL} {ps:List PL} {x1 x2:List (List PL)} (h:NF E G lo p i n (i+1) ps x1) (t:ND E G lo n (i+1) ps x2):ND E G lo n i (p::ps) (x1++x2)
theorem NF.len {E:Xa}{G d p:PL}{i n j:Nat}{b:List PL}{a:List (List PL)}(h:NF E G d p i n j b a):a.length=b.length:=by
 induction h with
 |nil=>rfl
 |cons _ _ c=>simp[c]
theorem xN {E:Xa}{K k i j:Nat}(c:E.mode=md){G f p q:PL}{a t o:List PL}(s:Sl G (Xf a))(r:a[j]? =some q)(n:a.length<1000000)(h:p7 E G f p q i j a.length t){H:List Xz}{L:DL}(x:Em H L o)(y:o.length<1000000):
  ∃g l,Xb E K 0 C1 x54_1 (k+1) ⟨Cu G f p L a.length i j,H⟩=Xb E K 0 C1 x54_1 k ⟨Cu G f p l a.length i (j+1),g⟩/\Em g l (o++[.Xp (Xf t)]):=by
 rcases x with⟨rfl,rfl⟩|⟨d,v,rfl,m⟩
 ·obtain⟨u,d,v,e,w⟩:=C0 (K:=K) (k:=k) c s r n h H;exact⟨_,_,e,.inr ⟨d,v,rfl,w⟩⟩
 ·obtain⟨u,e⟩:=CZ (K:=K) (k:=k) c s r n h H m y;have b:d<H.length:=(Zb.1 m).1;exact⟨_,_,e,.inr ⟨d,v+1,rfl,by rw[ZB (by simpa using b),YR b]⟩⟩
theorem EK {E:Xa}{K i:Nat}(s:E.mode=md){G u p:PL}{c:List PL}(x:Sl G (Xf c))(I:c.length<1000000){j:Nat}{f:List PL}{d:List (List PL)}(h:NF E G u p i c.length j f d):∀(k:Nat) (H:List Xz) (L:DL) (o:List PL),Em H L o->c.drop j=f->j+f.length=c.length->o.length+f.length<1000000->f.length<k->
  ∃a g l,Xb E K 0 C1 x54_1 k ⟨Cu G u p L c.length i j,H⟩=some (.exit 2,⟨a,g⟩)/\Em g l (o++oi d)/\Xh a 0=some (.one (.p G))/\Xh a 1=some (.one (.p u))/\Xh a 6=some (.one l)/\Xh a 27=some (.one (.p G))/\Xh a 28=some (.one (.p (.int .i64 (.ofNat c.length))))/\Xh a 29=some (.one (.p (.int .i64 (.ofNat i)))):=by
 induction h with
 |nil j=>
  intro k H L o n _ m _ w;obtain⟨k,rfl⟩:∃t,k=t+1:=⟨k-1,by omega⟩;simp only[Zu,Yk]at m;subst m;have b:=x.len;rw[Xr]at b;apply FC
  ·rw[Xb];simp only[Xm,Xq,reduceIte,Nat.reduceEqDiff,x54_1,b,Zx];rfl
  ·refine⟨by simpa using n,?_⟩;simp only[Xm,reduceIte,Nat.reduceEqDiff,and_self]
 |@cons j q f N d D h M=>
  intro k H L o n F m J w;obtain⟨k,rfl⟩:∃t,k=t+1:=⟨k-1,by omega⟩;simp only[Zi]at m w J;obtain⟨C,A⟩:=Xi F;obtain⟨y,z,e,r⟩:=xN (K:=K) (k:=k) s x C I D n (by omega);rw[e];obtain⟨a,g,l,B,v⟩:=M k y z _ r A (by omega) (by simp only[Zk,Zi,Zu];omega) (by omega);rw[Zq]at v;exact⟨a,g,l,B,v⟩
abbrev F7 (G lo:PL)(L:DL)(n i:Nat):List (Nat×DV):=[(0,.one (.p G)),(1,.one (.p lo)),(6,.one L),(27,.one (.p G)),(28,.one (.p (.int .i64 (.ofNat n)))),(29,.one (.p (.int .i64 (.ofNat i))))]
theorem EL {E:Xa}{K:Nat}(m:E.mode=md){G u:PL}{a:List PL}(w:Sl G (Xf a))(X:a.length<1000)(W:a.length<K){i:Nat}{b:List PL}{c:List (List PL)}(h:ND E G u a.length i b c):∀(k:Nat) (H:List Xz) (L:DL) (o:List PL),Em H L o->a.drop i=b->i+b.length=a.length->o.length+b.length*1000<1000000->b.length<k->
  ∃f d e,Xb E K 0 [0,1,6,27,28,29] x54_2 k ⟨F7 G u L a.length i,H⟩=some (.exit 0,⟨f,d⟩)/\Em d e (o++oi c)/\Xh f 6=some (.one e):=by
 induction h with
 |nil i=>
  intro k H L o j _ g _ t;obtain⟨k,rfl⟩:∃n,k=n+1:=⟨k-1,by omega⟩;simp only[Zu,Yk]at g;subst g;apply FC
  ·rw[Xb];simp only[Xm,Xq,reduceIte,Nat.reduceEqDiff,x54_2,Zx];rfl
  ·refine⟨by simpa using j,?_⟩;simp only[Xm,reduceIte,Nat.reduceEqDiff]
 |@cons i p b Z x2 s h Q=>
  intro k H L o j N g P t;obtain⟨k,rfl⟩:∃n,k=n+1:=⟨k-1,by omega⟩;simp only[Zi]at g t P;obtain⟨M,q⟩:=Xi N;have l:i<a.length:=by omega
  have R:=fun(O:HF) (S:IntKind)=>w.idx (h:=O) (k:=S) (sz:=1) (XJ M) rfl
  have z:Xe .i64 (.ofNat (i+1))=.ofNat (i+1):=wrap_i64 (by omega);obtain⟨V,x,y,r,A,B,C,D,F,I,J⟩:=EK (K:=K) m w (by omega) s K H L o j q (by omega) (by omega) (by omega);have Y:=s.len;obtain⟨f,d,e,T,v,U⟩:=Q k x y _ A q (by omega) (by simp only[Zk,ZP];omega) (by omega);simp only[Cu]at r;refine⟨f,d,e,?_,by rw[Zq,<-List.map_append]at v;exact v,U⟩;rw[Xb];simp(decide:=true)only[Xm,Xq,reduceIte,x54_2,l,R,z,r,B,C,D,F,I,J];exact T
theorem eX {B:Xs}(l:Std B){G i:PL}{c:List PL}{b:List (List PL)}(m:Sl G (Xf c))(C:c.length<900)(h:X1 B fun E _=>ND E G i c.length 0 c b):∃L,Sl L (Xf (oi b))/\Xx B 54 [.one G,.one i] (.XZ [.one L,.one (.int .i64 (.ofNat 0))]):=by
 obtain⟨r,o,L,q,rfl⟩:=Xx.yK (p:=fun r=>∃L,Sl L (Xf (oi b))/\r=.XZ [.one L,.one (.int .i64 (.ofNat 0))]) (l.Wa 54 _ rfl) (a:=[.one G,.one i]) ((h.and (l.Xj.and (X1.ge (c.length+1)))).mono fun E K ⟨n,f,A⟩=>by
  obtain⟨z,x,y,e,j,k⟩:=EL (K:=K) f m (by omega) (by omega) n K [] (.p .XC) [] (.inl ⟨rfl,rfl⟩) rfl (by omega) (by simp only[Zu];omega) (by omega);have g:=m.len;rw[Xr]at g;simp only[F7]at e;rw[ZF]at j;rcases j with⟨rfl,u⟩|⟨d,v,rfl,s⟩
  ·refine⟨_,?_,.XC,by rw[u];exact .nil,rfl⟩;simp(decide:=true)only[Xm,Xq,reduceIte,Nat.reduceAdd,x54,g,e,k]
  ·have w:(pc (Xf (oi b))).take (oi b).length=pc (Xf (oi b)):=VA (Xf (oi b)) (by rw[Xr];exact Zh _);have t:=fun h=>VK 5 h (Xf (oi b))
   refine⟨_,?_,.Xp (Xf (oi b)),.Xp,rfl⟩;simp(decide:=true)only[Xm,Xq,reduceIte,Nat.reduceAdd,x54,g,e,k,s,w,t,Wl,Xr,Zh])
 exact⟨L,q,o⟩
structure Ea (E:Xa)(G lo:PL)(gs ls vs cs:List PL)(V:PL)(k:Nat)(d:List (List PL))(vs':List PL):Prop where
 ex:∃i j p q r X F' Y a1 a2 a3 a4 b1 b2 b3 b4 t1 t2 t3 t4 c1 c2 c3 c4 c0 m a b t l u,∃z:Bool,m.length=8/\a.length=8/\b.length=8/\t.length=8/\l.length=8/\u.length=8/\
  gs[i]? =some p/\gs[j]? =some q/\vs[i]? =some r/\ls[k]? =some X/\cs[k]? =some c0/\
  E.pure 60 [.one V,.one G,.one lo]=some (.XZ [.one (.int .i64 (.ofNat i)),.one (.int .i64 (.ofNat j)),.agg (mo m)])/\
  NH E lo p a1 a2 a3 a4 a true/\NH E lo q b1 b2 b3 b4 b true/\NH E lo r t1 t2 t3 t4 t true/\
  E.pure 63 [.agg (mo a),.agg (mo b)]=some (.agg (mo l))/\
  E.pure 62 [.agg (mo m),.agg (mo l)]=some (.XZ [.agg (mo u),.one (.bool z)])/\
  E.pure 64 [.agg [t1,t2,t3,t4],.agg [a1,a2,a3,a4]]=some (.agg [c1,c2,c3,c4])/\
  E.pure 65 [.one (.int .i64 (.ofNat i)),.one (.int .i64 (.ofNat j)),.one (.int .i64 (.ofNat gs.length))]=some (.one (.int .i64 (.ofNat k)))/\
  E.pure 67 [.one .XC,.one (.Xp [c1::c2::c3::c4::mo u])]=some (.one (.Xp F'))/\
  E.pure 66 [.one X,.one (.Xp F')]=some (.XZ [.one Y,.one (.bool true)])/\
  E.pure 68 [.one c0,.one (.Xp [c1::c2::c3::c4::mo u])]=some (.one (.Xp d))/\
  E.pure 69 [.one V,.one (.Xp [[Y]])]=some (.one (.Xp (Xf vs')))
abbrev FB (G lo L V:PL)(n:Nat):List (Nat×DV):=[(1,.one (.p G)),(2,.one (.p lo)),(8,.one (.p L)),(10,.one (.own 0 0 0 n)),(11,.one (.p V))]
theorem zG {E:Xa}{K k A:Nat}(y:E.mode=md){G B L V:PL}{d:List (List PL)}{F R S s n:List PL}(D:Sl G (Xf F))(sl:Sl L (Xf R))(sv:Sl V (Xf S))(h:Ea E G B F R S n V A d s)(c:List Xz):
  ∃T,Xb E K 0 [1,2,8,10,11] x25_1 (k+1) ⟨FB G B L V n.length,wW n::c⟩=Xb E K 0 [1,2,8,10,11] x25_1 k ⟨FB G B L (.Xp (Xf s)) n.length,wW (n.set A (.Xp d))::(c++T)⟩:=by
 obtain⟨i,j,p,q,r,X,F',Y,a1,a2,a3,a4,b1,b2,b3,b4,t1,t2,t3,t4,c1,c2,c3,c4,c0,m,a,b,t,l,u,z,m8,U,W,t8,l8,u8,hp,hq,hr,hX,Q,H,I,J,M,N,O,h7,h8,P,v,o,w⟩:=h.ex;have ip:=fun(f:HF) (g:IntKind)=>D.idx (h:=f) (k:=g) (sz:=1) (XJ hp) rfl
 have iq:=fun(f:HF) (g:IntKind)=>D.idx (h:=f) (k:=g) (sz:=1) (XJ hq) rfl
 have ir:=fun(f:HF) (g:IntKind)=>sv.idx (h:=f) (k:=g) (sz:=1) (XJ hr) rfl
 have iX:=fun(f:HF) (g:IntKind)=>sl.idx (h:=f) (k:=g) (sz:=1) (XJ hX) rfl
 have gc:=eA Q;have x:A<n.length:=(Zb.mp Q).1;have e:=D.len;rw[Xr]at e;have C:∀Z:List (List PL),(PL.Xp Z).scalar=false:=fun _=>rfl
 have k5:¬(c.length+5<=c.length):=by omega
 have k6:¬(c.length+6<=c.length):=by omega
 have k7:¬(c.length+7<=c.length):=by omega
 obtain⟨m0,m1,m2,m3,m4,m5,m6,m7,rfl⟩:=eight m8;obtain⟨d0,d1,d2,d3,d4,d5,d6,d7,rfl⟩:=eight U;obtain⟨e0,e1,e2,e3,e4,e5,e6,e7,rfl⟩:=eight W;obtain⟨f0,f1,f2,f3,f4,f5,f6,f7,rfl⟩:=eight t8;obtain⟨g0,g1,g2,g3,g4,g5,g6,g7,rfl⟩:=eight l8;obtain⟨r0,r1,r2,r3,r4,r5,r6,r7,rfl⟩:=eight u8;simp only[NH,mo,Zr,ZE]at H I J M N O P o;apply Exists.intro
 ·rw[Xb];simp(decide:=true)only[Xm,Xq,Vg,Vm,reduceIte,Nat.reduceEqDiff,Nat.reduceLeDiff,Nat.reduceAdd,x25_1,y,X5,x,ip,iq,ir,iX,gc,kq,e,H,I,J,M,N,O,h7,h8,P,v,o,w,W5,VD,We,Wg,Zq,Zk,Zt,C,k5,Nat.not_lt_zero];rfl
inductive iJ (E:Xa)(G lo:PL)(gs ls:List PL):Nat->PL->List PL->List PL->List PL->Prop
 |done {V:PL} {vs cs:List PL} {i:Int} {m:List Nat} (m8:m.length=8) (h:E.pure 60 [.one V,.one G,.one lo]=some (.XZ [.one (.int .i64 i),.one (.int .i64 (.negSucc 0)),.agg (mo m)])):iJ E G lo gs ls 0 V vs cs cs
 |step {r k:Nat} {V:PL} {vs vs' cs cs':List PL} {d:List (List PL)} (sv:Sl V (Xf vs)) (h:Ea E G lo gs ls vs cs V k d vs') (t:iJ E G lo gs ls r (.Xp (Xf vs')) vs' (cs.set k (.Xp d)) cs'):iJ E G lo gs ls (r+1) V vs cs cs'
theorem iJ.len {E:Xa}{G e V:PL}{c f g b a:List PL}{r:Nat}(h:iJ E G e c f r V g b a):a.length=b.length:=by
 induction h with
 |done=>rfl
 |step _ _ _ d=>rw[d,ZT]
theorem EX {E:Xa}{K:Nat}(d:E.mode=md){G l L:PL}{j n:List PL}(x:Sl G (Xf j))(y:Sl L (Xf n)){r:Nat}{V:PL}{o b c:List PL}(h:iJ E G l j n r V o b c):∀(k:Nat) (a:List Xz),r<k->
  ∃f s,Xb E K 0 [1,2,8,10,11] x25_1 k ⟨FB G l L V b.length,wW b::a⟩=some (.ret,⟨f,wW c::s⟩)/\Xh f 6=some (.one (.own 0 0 0 b.length))/\Xh f 7=some (.one (.p (.int .i64 (.ofNat 0)))):=by
 induction h with
 |@done V o b i m w h=>
  intro k a u;obtain⟨k,rfl⟩:∃g,k=g+1:=⟨k-1,by omega⟩;obtain⟨A,B,C,D,F,H,I,J,rfl⟩:=eight w;simp only[mo,Zr,ZE]at h;apply AD
  ·rw[Xb];simp(decide:=true)only[Xm,Xq,Vm,reduceIte,Nat.reduceAdd,x25_1,d,X5,h,We,Wg,Zk,Zt];rfl
  ·simp only[Xm,reduceIte,Nat.reduceEqDiff,and_self]
 |step z h t v=>
  intro k a u;obtain⟨k,rfl⟩:∃g,k=g+1:=⟨k-1,by omega⟩;obtain⟨q,e⟩:=zG (K:=K) (k:=k) d x y z h a;rw[e];have:=v k (a++q) (by omega);rw[ZT]at this;exact this
theorem kI {B:Xs}(b:Std B){G c:PL}(d:Xx B 50 [.one c] (.one (.bool false))):Xx B 19 [.one G,.one c] (.XZ [.one .XC,.one (.int .i64 (.ofNat 50))]):=by
 refine Xx.of (b.Wa _ _ rfl) ((d.Xj.and b.Xj).mono fun E K ⟨e1,a⟩=> ?_);simp(decide:=true)only[Xm,Xq,Vm,reduceIte,Nat.reduceAdd,x19,a,X5,e1]
theorem ik {B:Xs}(b:Std B){G c:PL}(d:Xx B 50 [.one c] (.one (.bool true)))(e:Xx B 52 [.one G,.one (.fn 51 [])] (.one (.bool true))):Xx B 19 [.one G,.one c] (.XZ [.one .XC,.one (.int .i64 (.ofNat 120))]):=by
 refine Xx.of (b.Wa _ _ rfl) ((d.Xj.and (e.Xj.and b.Xj)).mono fun E K ⟨e1,e2,a⟩=> ?_);simp(decide:=true)only[Xm,Xq,Vm,reduceIte,Nat.reduceAdd,x19,a,X5,e1,e2]
theorem kJ {B:Xs}(c:Std B){G b:PL}(f:Xx B 50 [.one b] (.one (.bool true)))(g:Xx B 52 [.one G,.one (.fn 51 [])] (.one (.bool false)))(e:Xx B 53 [.one G,.one b] (.one (.bool false))):Xx B 19 [.one G,.one b] (.XZ [.one .XC,.one (.int .i64 (.ofNat 120))]):=by
 refine Xx.of (c.Wa _ _ rfl) ((f.Xj.and (g.Xj.and (e.Xj.and c.Xj))).mono fun E K ⟨e1,e2,d,a⟩=> ?_);simp(decide:=true)only[Xm,Xq,Vm,reduceIte,Nat.reduceAdd,x19,a,X5,e1,e2,d]
theorem nh {B:Xs}(c:Std B){G a L:PL}(h:Xx B 50 [.one a] (.one (.bool true)))(i:Xx B 52 [.one G,.one (.fn 51 [])] (.one (.bool false)))(f:Xx B 53 [.one G,.one a] (.one (.bool true)))(g:Xx B 54 [.one G,.one a] (.XZ [.one L,.one (.int .i64 (.ofNat 0))])):Xx B 19 [.one G,.one a] (.XZ [.one L,.one (.int .i64 (.ofNat 0))]):=by
 refine Xx.of (c.Wa _ _ rfl) ((h.Xj.and (i.Xj.and (f.Xj.and (g.Xj.and c.Xj)))).mono fun E K ⟨e1,e2,d,e,b⟩=> ?_);simp(decide:=true)only[Xm,Xq,Vm,reduceIte,Nat.reduceAdd,x19,b,X5,e1,e2,d,e]
theorem P6 {B:Xs}(b:Std B){S G c L:PL}{e:Nat}(d:e≠0)(f:Xx B 19 [.one G,.one c] (.XZ [.one L,.one (.int .i64 (.ofNat e))])):Xx B 25 [.one S,.one G,.one c] (.XZ [.one .XC,.one (.int .i64 (.ofNat e))]):=by
 refine Xx.of (b.Wa _ _ rfl) ((f.Xj.and b.Xj).mono fun E K ⟨e1,a⟩=> ?_);simp(decide:=true)only[Xm,Xq,Vm,reduceIte,Nat.reduceAdd,x25,a,X5,e1,d]
theorem oW {B:Xs}(b:Std B){S G c L:PL}(e:Xx B 19 [.one G,.one c] (.XZ [.one L,.one (.int .i64 (.ofNat 0))]))(d:Xx B 13 [.one S,.one G] (.one (.bool false))):Xx B 25 [.one S,.one G,.one c] (.XZ [.one .XC,.one (.int .i64 (.ofNat 1))]):=by
 refine Xx.of (b.Wa _ _ rfl) ((e.Xj.and (d.Xj.and b.Xj)).mono fun E K ⟨e1,e2,a⟩=> ?_);simp(decide:=true)only[Xm,Xq,Vm,reduceIte,Nat.reduceAdd,x25,a,X5,e1,e2]
theorem rQ {B:Xs}(i:Std B){S G d L:PL}{g ls w a:List PL}{r:Nat}(v:Sl G (Xf g))(k:Sl L (Xf ls))(A:ls.length<1000)(s:Xx B 19 [.one G,.one d] (.XZ [.one L,.one (.int .i64 (.ofNat 0))]))(q:Xx B 13 [.one S,.one G] (.one (.bool true)))(h:X1 B fun E _=>iJ E G d g ls r S w (List.replicate ls.length .XC) a):
  Xx B 25 [.one S,.one G,.one d] (.XZ [.one (.Xp (Xf a)),.one (.int .i64 (.ofNat 0))]):=by
 refine Xx.of (i.Wa _ _ rfl) ((s.Xj.and (q.Xj.and (h.and (i.Xj.and (X1.ge (r+1)))))).mono fun E K ⟨e1,e2,e,b,z⟩=> ?_);obtain⟨y,x,c,f,o⟩:=EX (K:=K) b v k e K [] (by omega);have u:=e.len;rw[Ys]at u c f;have j:=k.len;rw[Xr]at j;have l:24*ls.length<=lim:=by unfold lim;omega
 have m:ls.length<=9223372036854775807:=by omega
 have n:ls.length<=a.length:=by omega
 have t:(pc (Xf a)).take ls.length=pc (Xf a):=VA (Xf a) (by rw[Xr];omega);have p:=fun h=>VK 5 h (Xf a)
 simp only[FB]at c;simp(decide:=true)only[Xm,Xq,Vg,Vm,reduceIte,Nat.reduceAdd,x25,b,X5,e1,e2,j,l,m,kR,c,f,o,t,p,Wl,Xr,n]
end Go.Proofs.YtidginchkjhobaaGreat
