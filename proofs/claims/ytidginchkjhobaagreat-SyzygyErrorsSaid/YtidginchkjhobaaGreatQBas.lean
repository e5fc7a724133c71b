/- Division: IsBasis of the program, its rounds (written by gen_qbas.py). -/
import Derived.Test.YtidginchkjhobaaGreatQDvdB
import Derived.OwnWalkIn
import Derived.BigFrameIn
import Derived.TacticsInMore
import Derived.LoopIn
set_option maxHeartbeats 16000000
set_option maxRecDepth 100000
namespace Go.Proofs.YtidginchkjhobaaGreat
open Go.Ev Go.Num
def wM:XH:=.VW [4,5,27,28] (sQ (rG [mV 6 27]) (rG [mV 7 28]))
def wN:XH:=.block 1 (sQ (.Rb [oP 29 (.fieldAddr 1) [.t 5],oA 30 (.load false 1) [.t 29] [0],mV 31 6,oA 32 (.Q7 15) [.t 30,.t 31] [1,2,0],oA 33 (.load true 15) [.t 32] [3,1,2,0],oP 34 (.fieldAddr 1) [.t 5],oA 35 (.load false 1) [.t 34] [5],mV 36 7,oA 37 (.Q7 15) [.t 35,.t 36] [6,7,5],oA 38 (.load true 15) [.t 37] [8,6,7,5],oP 8 (.alloc 140 [.bool false,.XC,.bool false,.XC,cI 0,cI 0,cI 0,cI 0,cI 0,cI 0,cI 0,cI 0,.XC,.XC,cI 0]) [],oP 9 (.alloc 140 [.bool false,.XC,.bool false,.XC,cI 0,cI 0,cI 0,cI 0,cI 0,cI 0,cI 0,cI 0,.XC,.XC,cI 0]) [],oN (.store 15) [.t 8,.t 33] [4,10,11,3,1,2,0]] [oN (.store 15) [.t 9,.t 38] [9,12,8,6,7,5,4,10,11,3,1,2,0]]) (.VW [4,5,8,9] (sQ (sQ (rG [oP 39 (.fieldAddr 0) [.t 8],oP 40 (.fieldAddr 4) [.t 39],oP 41 (.load true 8) [.t 40],oP 42 (.fieldAddr 0) [.t 9],oP 43 (.fieldAddr 4) [.t 42],oP 44 (.load true 8) [.t 43],oP 45 (.call 97) [.t 41,.t 44],oP 46 (.build [cI 0,cI 0,cI 0,cI 0,cI 0,cI 0,cI 0,cI 0] []) [],oP 47 (.NC false .i64 8) [.t 45,.t 46]]) (.VW [4,5,8,9,47] (.cond (.t 47) (.exit 1) .skip))) (.VW [4,5,8,9] (sQ (rG [oP 49 (.load true 15) [.t 8],oP 50 (.load true 15) [.t 9],oP 51 (.call 98) [.t 49,.t 50],mV 48 51,oP 52 (.extract 0) [.t 48],oP 53 (.extract 1) [.t 48],mV 10 52,mV 11 53]) (.VW [4,5,10,11] (sQ (sQ (rG [mV 54 11,oP 55 (.bin .neq) [.t 54,cC 0]]) (.cond (.t 55) (sQ (rG [oN (.store 1) [.t 4,cF] []]) .ret) .skip)) (sQ (rG [oP 57 (.load true 4) [.t 5],mV 58 10,oP 59 (.call 99) [.t 57,.t 58],mV 56 59,oP 60 (.extract 0) [.t 56],oP 61 (.extract 1) [.t 56],oP 62 (.extract 2) [.t 56],mV 12 60,mV 13 61,mV 14 62]) (.VW [4,5,13] (sQ (rG [mV 63 13,oP 64 .len [.t 63],oP 65 (.bin .gtr) [.t 64,cC 0]]) (.cond (.t 65) (sQ (rG [oN (.store 1) [.t 4,cF] []]) .ret) .skip)))))))))))
abbrev iG (E:Xa)(K:Nat):St->Option (Ex×St):=TP (fun s=>XG E K 0 wM s) (fun s=>XG E K 0 wN s)
abbrev A3 (b:Bool):Xz:=⟨false,0,1,[[.p (.bool b)]],false,4⟩
abbrev Bz (lo by_:PL):Xz:=S5 lo by_ 9223372036854775807 (.bool true)
theorem DP {a b:Type}{f:a->b->Prop}{x:a}{y:b}(h:f x y):∃x y,f x y:=⟨x,y,h⟩
theorem Ai {E:Xa}{K i j:Nat}(s:E.mode=md){Q d:PL}{f:List (List PL)}(o:Sl d f){a b c e p q a2 b2 c2 e2 p2 q2:PL}{m w g:List Nat}{ix u:Nat}(hi:f[i]? =some (T8 a b c e m p q ix))(hj:f[j]? =some (T8 a2 b2 c2 e2 w p2 q2 u))(C:m.length=8)(l:w.length=8)(hg:g.length=8)
  (A:E.pure 97 [.agg (mo m),.agg (mo w)]=some (.agg (mo g))) (t:g=Tp) {T:List (Nat×DV)} (t4:Xh T 4=some (.one (.ptr 0 0 0 0))) (t5:Xh T 5=some (.one (.ptr 1 0 0 0))) (x:Bool) (G:List Xz):
  ∃T' G',iG E K ⟨(28,.one (.p (.int .i64 (.ofNat j))))::(27,.one (.p (.int .i64 (.ofNat i))))::T,A3 x::Bz Q d::G⟩=some (.normal,⟨T',A3 x::Bz Q d::G'⟩):=by
 have D:=fun(r:HF) (v:IntKind)=>o.idx (h:=r) (k:=v) (sz:=15) hi (by simp[T8,XI,C])
 have F:=fun(r:HF) (v:IntKind)=>o.idx (h:=r) (k:=v) (sz:=15) hj (by simp[T8,XI,l])
 have B:=Rr hg (n:=Tp) rfl;have tg:(Xu g).take 8=Xu g:=Zd (by rw[Xc];omega);obtain⟨H,I,J,L,M,N,O,P,rfl⟩:=eight C;obtain⟨R,S,U,V,W,X,Y,Z,rfl⟩:=eight l;have y:mo [H,I,J,L,M,N,O,P]=[.int .i64 (.ofNat H),.int .i64 (.ofNat I),.int .i64 (.ofNat J),.int .i64 (.ofNat L),.int .i64 (.ofNat M),.int .i64 (.ofNat N),.int .i64 (.ofNat O),.int .i64 (.ofNat P)]:=rfl;have z:mo [R,S,U,V,W,X,Y,Z]=[.int .i64 (.ofNat R),.int .i64 (.ofNat S),.int .i64 (.ofNat U),.int .i64 (.ofNat V),.int .i64 (.ofNat W),.int .i64 (.ofNat X),.int .i64 (.ofNat Y),.int .i64 (.ofNat Z)]:=rfl;have z8:Xu Tp=[.p (.int .i64 (.ofNat 0)),.p (.int .i64 (.ofNat 0)),.p (.int .i64 (.ofNat 0)),.p (.int .i64 (.ofNat 0)),.p (.int .i64 (.ofNat 0)),.p (.int .i64 (.ofNat 0)),.p (.int .i64 (.ofNat 0)),.p (.int .i64 (.ofNat 0))]:=rfl;rw[z8]at B;simp only[T8,y,z,ZI,ZF]at D F;rw[y,z]at A;have t:=decide_eq_true t;apply DP;simp(decide:=true)only[iG,TP,wM,wN,Xm,Xq,Vg,Vm,reduceIte,Nat.reduceEqDiff,Nat.reduceLeDiff,Nat.reduceAdd,s,X5,t4,t5,D,F,A,B,t,Wk,W5,VD,We,Wg,Zq,Zk,Zt,BEq.rfl];rfl
theorem DU {E:Xa}{K i j:Nat}(y:E.mode=md){B d:PL}{f:List (List PL)}(t:Sl d f){a b c e p q C D H e2 p2 q2:PL}{m u g:List Nat}{O s:Nat}(hi:f[i]? =some (T8 a b c e m p q O))(hj:f[j]? =some (T8 C D H e2 u p2 q2 s))(M:m.length=8)(o:u.length=8)(hg:g.length=8)
  (I:E.pure 97 [.agg (mo m),.agg (mo u)]=some (.agg (mo g))) (z:g≠Tp) {sp qq r:PL} (J:E.pure 98 [.agg (T8 a b c e m p q O),.agg (T8 C D H e2 u p2 q2 s)]=some (.XZ [.one sp,.one (.int .i64 (.ofNat 0))])) (h3:E.pure 99 [.agg [B,d,.int .i64 (.ofNat 9223372036854775807),.bool true],.one sp]=some (.XZ [.one qq,.one r,.one (.bool true)])) (sr:Sl r []) {T:List (Nat×DV)} (t4:Xh T 4=some (.one (.ptr 0 0 0 0))) (t5:Xh T 5=some (.one (.ptr 1 0 0 0))) (F:Bool) (G:List Xz):
  ∃T' G',iG E K ⟨(28,.one (.p (.int .i64 (.ofNat j))))::(27,.one (.p (.int .i64 (.ofNat i))))::T,A3 F::Bz B d::G⟩=some (.normal,⟨T',A3 F::Bz B d::G'⟩):=by
 have N:=fun(x:HF) (A:IntKind)=>t.idx (h:=x) (k:=A) (sz:=15) hi (by simp[T8,XI,M])
 have P:=fun(x:HF) (A:IntKind)=>t.idx (h:=x) (k:=A) (sz:=15) hj (by simp[T8,XI,o])
 have L:=Rr hg (n:=Tp) rfl;have tg:(Xu g).take 8=Xu g:=Zd (by rw[Xc];omega);obtain⟨Q,R,S,U,V,W,X,Y,rfl⟩:=eight M;obtain⟨Z,n2,n3,n4,n5,n6,n7,n8,rfl⟩:=eight o;have v:mo [Q,R,S,U,V,W,X,Y]=[.int .i64 (.ofNat Q),.int .i64 (.ofNat R),.int .i64 (.ofNat S),.int .i64 (.ofNat U),.int .i64 (.ofNat V),.int .i64 (.ofNat W),.int .i64 (.ofNat X),.int .i64 (.ofNat Y)]:=rfl;have w:mo [Z,n2,n3,n4,n5,n6,n7,n8]=[.int .i64 (.ofNat Z),.int .i64 (.ofNat n2),.int .i64 (.ofNat n3),.int .i64 (.ofNat n4),.int .i64 (.ofNat n5),.int .i64 (.ofNat n6),.int .i64 (.ofNat n7),.int .i64 (.ofNat n8)]:=rfl;have z8:Xu Tp=[.p (.int .i64 (.ofNat 0)),.p (.int .i64 (.ofNat 0)),.p (.int .i64 (.ofNat 0)),.p (.int .i64 (.ofNat 0)),.p (.int .i64 (.ofNat 0)),.p (.int .i64 (.ofNat 0)),.p (.int .i64 (.ofNat 0)),.p (.int .i64 (.ofNat 0))]:=rfl;rw[z8]at L;simp only[T8,v,w,ZI,ZF]at N P;rw[v,w]at I;have z:=decide_eq_false z;simp only[T8,v,w,ZI,ZF]at J;have l:=sr.len;apply DP;simp(decide:=true)only[iG,TP,wM,wN,Xm,Xq,Vg,Vm,reduceIte,Nat.reduceEqDiff,Nat.reduceLeDiff,Nat.reduceAdd,y,X5,t4,t5,N,P,I,L,z,Wk,W5,VD,We,Wg,Zq,Zk,Zt,J,h3,l];rfl
theorem Cc {E:Xa}{K i j:Nat}(z:E.mode=md){C d:PL}{f:List (List PL)}(t:Sl d f){a b c e p q D F H e2 p2 q2:PL}{m u g:List Nat}{P s:Nat}(hi:f[i]? =some (T8 a b c e m p q P))(hj:f[j]? =some (T8 D F H e2 u p2 q2 s))(N:m.length=8)(o:u.length=8)(hg:g.length=8)
  (J:E.pure 97 [.agg (mo m),.agg (mo u)]=some (.agg (mo g))) (A:g≠Tp) {sp qq r:PL} {I:List (List PL)} (L:E.pure 98 [.agg (T8 a b c e m p q P),.agg (T8 D F H e2 u p2 q2 s)]=some (.XZ [.one sp,.one (.int .i64 (.ofNat 0))])) (h3:E.pure 99 [.agg [C,d,.int .i64 (.ofNat 9223372036854775807),.bool true],.one sp]=some (.XZ [.one qq,.one r,.one (.bool true)])) (sr:Sl r I) (x:0<I.length) {T:List (Nat×DV)} (t4:Xh T 4=some (.one (.ptr 0 0 0 0))) (t5:Xh T 5=some (.one (.ptr 1 0 0 0))) (bb:Bool) (G:List Xz):
  ∃T' G',iG E K ⟨(28,.one (.p (.int .i64 (.ofNat j))))::(27,.one (.p (.int .i64 (.ofNat i))))::T,A3 bb::Bz C d::G⟩=some (.ret,⟨T',A3 false::Bz C d::G'⟩):=by
 have O:=fun(y:HF) (B:IntKind)=>t.idx (h:=y) (k:=B) (sz:=15) hi (by simp[T8,XI,N])
 have Q:=fun(y:HF) (B:IntKind)=>t.idx (h:=y) (k:=B) (sz:=15) hj (by simp[T8,XI,o])
 have M:=Rr hg (n:=Tp) rfl;have tg:(Xu g).take 8=Xu g:=Zd (by rw[Xc];omega);obtain⟨R,S,U,V,W,X,Y,Z,rfl⟩:=eight N;obtain⟨n1,n2,n3,n4,n5,n6,n7,n8,rfl⟩:=eight o;have v:mo [R,S,U,V,W,X,Y,Z]=[.int .i64 (.ofNat R),.int .i64 (.ofNat S),.int .i64 (.ofNat U),.int .i64 (.ofNat V),.int .i64 (.ofNat W),.int .i64 (.ofNat X),.int .i64 (.ofNat Y),.int .i64 (.ofNat Z)]:=rfl;have w:mo [n1,n2,n3,n4,n5,n6,n7,n8]=[.int .i64 (.ofNat n1),.int .i64 (.ofNat n2),.int .i64 (.ofNat n3),.int .i64 (.ofNat n4),.int .i64 (.ofNat n5),.int .i64 (.ofNat n6),.int .i64 (.ofNat n7),.int .i64 (.ofNat n8)]:=rfl;have z8:Xu Tp=[.p (.int .i64 (.ofNat 0)),.p (.int .i64 (.ofNat 0)),.p (.int .i64 (.ofNat 0)),.p (.int .i64 (.ofNat 0)),.p (.int .i64 (.ofNat 0)),.p (.int .i64 (.ofNat 0)),.p (.int .i64 (.ofNat 0)),.p (.int .i64 (.ofNat 0))]:=rfl;rw[z8]at M;simp only[T8,v,w,ZI,ZF]at O Q;rw[v,w]at J;have A:=decide_eq_false A;simp only[T8,v,w,ZI,ZF]at L;have l:=sr.len;apply DP;simp(decide:=true)only[iG,TP,wM,wN,Xm,Xq,Vg,Vm,reduceIte,Nat.reduceEqDiff,Nat.reduceLeDiff,Nat.reduceAdd,z,X5,t4,t5,O,Q,J,M,A,Wk,W5,VD,We,Wg,Zq,Zk,Zt,L,h3,l,x];rfl
open Go.RowKit Go.Ev
attribute [local go_sem] Oper.semAt_some
def kU (n i:Nat):List (Nat×Nat):=(List.range (n-(i+1))).map fun k=>(i,i+1+k)
def Si (n i:Nat):List (Nat×Nat):=(List.range i).flatMap (kU n)
theorem jj (n i:Nat):Si n (i+1)=Si n i++kU n i:=by simp[Si,List.range_succ]
theorem yA (n i k:Nat)(c:i<n)(f:i+1+k<n):(Si n n)[(Si n i).length+k]? =some (i,i+1+k):=by
 have split:∀m,i<m->∃r,Si n m=Si n i++kU n i++r:=by
  intro m;induction m with
  |zero=>intro h;omega
  |succ m d=>
   intro h;rw[jj];by_cases e:i=m
   ·subst e;exact⟨[],by simp⟩
   ·obtain⟨r,a⟩:=d (by omega);exact⟨r++kU n m,by rw[a];simp⟩
 obtain⟨r,a⟩:=split n c;rw[a,Zq,ZL (by omega)];rw[show(Si n i).length+k-(Si n i).length=k by omega];have b:(kU n i).length=n-(i+1):=by simp[kU]
 rw[ZB (by omega)];simp only[kU,ZA,List.getElem?_range (show k<n-(i+1)by omega),Z4]
theorem iy (n i:Nat):(Si n (i+1)).length=(Si n i).length+(n-(i+1)):=by rw[jj];simp[kU]
def Ay (n:Nat):List (List PV):=(Si n n).map fun p=>[.one (.int .i64 p.1),.one (.int .i64 p.2)]
theorem Bl (n i j:Nat)(a:i<j)(b:j<n):(Ay n)[(Si n i).length+(j-(i+1))]? =some [.one (.int .i64 i),.one (.int .i64 j)]:=by
 simp only[Ay,ZA];rw[yA n i (j-(i+1)) (by omega) (by omega),show i+1+(j-(i+1))=j by omega];rfl
theorem Dy {w:World}{L:BS}{v:Value}{k:IntKind}{z:Int}(h:Wt w L v (.int k z)):v=.int k z:=by
 generalize a:PL.int k z=l at h;cases h<;>cases a;rfl
theorem yi {w:World}{L:BS}{b a:Nat}{k:IntKind}{z:Int}(h:Wt w L (.pointer (some ⟨b,a,none⟩)) (.ref [.int k z])):w.cell? ⟨b,a,none⟩=some (.int k z):=by
 generalize f:PL.ref [PL.int k z]=l at h;generalize i:Value.pointer (some ⟨b,a,none⟩)=v at h;cases h<;>cases f;rename_i d j e g;cases i;have c:=e 0 _ rfl;rw[Dy (g 0 _ rfl)]at c;simpa using c
theorem qX (n:Nat)(S:n<1000000):sj Tryz.prog 141 [.ref [.int .i64 n]] (Ay n):=by
 intro l D J C a F W h0;have t:∃v,D=[v]:=by
  obtain⟨L,m⟩:=a 0 W h0;cases m with
  |cons _ h=>cases h;exact⟨_,rfl⟩
 obtain⟨v,rfl⟩:=t;obtain⟨b,f,rfl⟩:∃b f,v=.pointer (some ⟨b,f,none⟩):=by
  obtain⟨L,m⟩:=a 0 W h0;cases m with
  |cons h _=>cases h;exact⟨_,_,rfl⟩
 have c:∀i W,J i W->W.cell? ⟨b,f,none⟩=some (.int .i64 n):=by
  intro i W q;obtain⟨L,m⟩:=a i W q;cases m with
  |cons h _=>exact yi h
 have s:∀i j W,i<j->j<n->J ((Si n i).length+(j-(i+1))) W->YieldAt Fence.wide 0 Tryz.prog l #[.int .i64 (i:Int),.int .i64 (j:Int)] W fun e A=>(e=.returned (.bool true)/\J ((Si n i).length+(j-(i+1))+1) A)\/(e=.returned (.bool false)/\C A):=by
  intro i j W u I q;exact F _ W _ [.int .i64 (i:Int),.int .i64 (j:Int)] q (Bl n i j u I) (.cons (fun L O h=>XL.p _ _ (.int _ _)) (.cons (fun L O h=>XL.p _ _ (.int _ _)) .nil))
 refine callsIn_of_wp Tryz.func141 rfl trivial ?_ rfl;simp only[Tryz.ntmps141,List.size_toArray,Zi,Zu,Nat.reduceAdd,Nat.reduceSub,Array.replicate_succ,Array.replicate_zero,List.push_toArray,List.append_toArray,ZF,ZI];have G:=c 0 W h0
 gi_wp2
 gi_loopw [6] (fun x N=>∃i:Nat,i<=n/\x=.int .i64 (i:Int)/\J (Si n i).length N)
  (fun x _=>n-(intOf x).toNat)
 case atStart=>exact⟨0,Zt _,rfl,by simpa[Si]using h0⟩
 case round=>
  obtain⟨i,R,rfl,g⟩:=hrel;by_cases y:i<n
  ·have B:(i:Int)<(n:Int):=by omega
   gi_wp2
   gi_loopw [4] (fun x z=>∃j:Nat,i+1<=j/\j<=n/\x=.int .i64 (j:Int)/\J ((Si n i).length+(j-(i+1))) z)
    (fun x _=>n-(intOf x).toNat)
   case atStart=>exact⟨i+1,Zh _,y,by simp,by simpa using g⟩
   case round=>
    obtain⟨j,K,M,rfl,d⟩:=hrel;have H:=c _ _ d;by_cases o:j<n
    ·have w:(j:Int)<(n:Int):=by omega
     obtain⟨Q,tmps,assign,body,T,E⟩:=s i j _ (by omega) o d
     gi_wp2
     refine⟨rfl,E.mono ?_⟩;rintro e P (⟨rfl,r⟩|⟨rfl,k⟩)
     ·gi_wp2
      go_roundw
      case rel=>exact⟨j+1,by omega,by omega,by simp,by rw[show(Si n i).length+(j+1-(i+1))=(Si n i).length+(j-(i+1))+1 by omega];exact r⟩
      case measure=>simp[intOf];omega
     ·gi_wp2
      refine bodyPost_ret (results_none rfl _ _ _) rfl ?_;exact⟨⟨_,rfl⟩,.inr k⟩
    ·obtain rfl:j=n:=by omega
     gi_wp2
     refine⟨⟨i+1,by omega,by simp,?_⟩,by simp[intOf];omega⟩;rw[iy];exact d
  ·obtain rfl:i=n:=by omega
   gi_wp2
   go_end0
   refine⟨⟨_,rfl⟩,.inl ?_⟩;have :(Ay i).length=(Si i i).length:=by simp[Ay]
   rw[this];exact g
structure pX (B:Xs):Prop extends dJ B where
 it:∀n,n<1000000->B.E0.iter 141 [.ref [.int .i64 (.ofNat n)]]=some (Ay n)
theorem Xs.iter (B:Xs)(K n:Nat):(B.E K n).iter=B.E0.iter:=by
 induction n with
 |zero=>rfl
 |succ n a=>exact a
theorem pX.FV {B:Xs}(a:pX B):X1 B fun E _=>∀n,n<1000000->E.iter 141 [.ref [.int .i64 (.ofNat n)]]=some (Ay n):=
 X1.of fun K n m b=>by rw[Xs.iter];exact a.it m b
theorem qR {B:Xs}(b:Std B)(n:Nat):Xx B 96 [.one (.int .i64 (.ofNat n))] (.one (.fn 141 [.ref [.int .i64 (.ofNat n)]])):=by
 have a:UN 141 [.one (.ptr 0 0 0 0)]=some ⟨.one (.fn 141 [.ptr 0 0 0 0]),[],[],[]⟩:=rfl;refine Xx.of (b.Wa _ _ rfl) (b.Xj.mono fun E K c=> ?_);simp(decide:=true)only[Xm,Xq,reduceIte,x96,a];rfl
inductive mj (E:Xa)(lo by_:PL)(dcs:List (List PL)):List (Nat×Nat)->Bool->Prop
 |nil:mj E lo by_ dcs [] true
 |skip {i j:Nat} {ps:List (Nat×Nat)} {r:Bool} {a b c e p q a2 b2 c2 e2 p2 q2:PL} {m m2 g:List Nat} {ix ix2:Nat} (hi:dcs[i]? =some (T8 a b c e m p q ix)) (hj:dcs[j]? =some (T8 a2 b2 c2 e2 m2 p2 q2 ix2)) (hm:m.length=8) (hm2:m2.length=8) (hg:g.length=8)
   (h1:E.pure 97 [.agg (mo m),.agg (mo m2)]=some (.agg (mo g))) (hz:g=Tp) (h:mj E lo by_ dcs ps r):mj E lo by_ dcs ((i,j)::ps) r
 |ok {i j:Nat} {ps:List (Nat×Nat)} {r:Bool} {a b c e p q a2 b2 c2 e2 p2 q2:PL} {m m2 g:List Nat} {ix ix2:Nat} (hi:dcs[i]? =some (T8 a b c e m p q ix)) (hj:dcs[j]? =some (T8 a2 b2 c2 e2 m2 p2 q2 ix2)) (hm:m.length=8) (hm2:m2.length=8) (hg:g.length=8)
   (h1:E.pure 97 [.agg (mo m),.agg (mo m2)]=some (.agg (mo g))) (hz:g≠Tp) {sp qq rr:PL} (h2:E.pure 98 [.agg (T8 a b c e m p q ix),.agg (T8 a2 b2 c2 e2 m2 p2 q2 ix2)]=some (.XZ [.one sp,.one (.int .i64 (.ofNat 0))]))
   (h3:E.pure 99 [.agg [lo,by_,.int .i64 (.ofNat 9223372036854775807),.bool true],.one sp]=some (.XZ [.one qq,.one rr,.one (.bool true)])) (sr:Sl rr []) (h:mj E lo by_ dcs ps r):mj E lo by_ dcs ((i,j)::ps) r
 |bad {i j:Nat} {ps:List (Nat×Nat)} {a b c e p q a2 b2 c2 e2 p2 q2:PL} {m m2 g:List Nat} {ix ix2:Nat} (hi:dcs[i]? =some (T8 a b c e m p q ix)) (hj:dcs[j]? =some (T8 a2 b2 c2 e2 m2 p2 q2 ix2)) (hm:m.length=8) (hm2:m2.length=8) (hg:g.length=8)
   (h1:E.pure 97 [.agg (mo m),.agg (mo m2)]=some (.agg (mo g))) (hz:g≠Tp) {sp qq rr:PL} {es:List (List PL)} (h2:E.pure 98 [.agg (T8 a b c e m p q ix),.agg (T8 a2 b2 c2 e2 m2 p2 q2 ix2)]=some (.XZ [.one sp,.one (.int .i64 (.ofNat 0))]))
   (h3:E.pure 99 [.agg [lo,by_,.int .i64 (.ofNat 9223372036854775807),.bool true],.one sp]=some (.XZ [.one qq,.one rr,.one (.bool true)])) (sr:Sl rr es) (hes:0<es.length):mj E lo by_ dcs ((i,j)::ps) false
abbrev FQ (ps:List (Nat×Nat)):List (List PV):=ps.map fun p=>[.one (.int .i64 p.1),.one (.int .i64 p.2)]
abbrev FU (b:Bool):Ex:=match b with |true=>.normal|false=>.ret
theorem DW {E:Xa}{K:Nat}(c:E.mode=md){A b:PL}{k:List (List PL)}(d:Sl b k){T:List (Nat×DV)}(C:Xh T 4=some (.one (.ptr 0 0 0 0)))(D:Xh T 5=some (.one (.ptr 1 0 0 0))){e:List (Nat×Nat)}{r:Bool}(h:mj E A b k e r):
  ∀(G:List Xz),∃f,U1 T (iG E K) [27,28] (FQ e) (A3 false::Bz A b::G)=some (FU r,⟨T,A3 false::Bz A b::f⟩):=by
 have step:∀(i j:Nat) (e:List (Nat×Nat)) (H:List Xz),U1 T (iG E K) [27,28] (FQ ((i,j)::e)) H=(match iG E K ⟨(28,.one (.p (.int .i64 (.ofNat j))))::(27,.one (.p (.int .i64 (.ofNat i))))::T,H⟩with
   |some (.normal,s)=>U1 T (iG E K) [27,28] (FQ e) s.H
   |some (.exit id,s)=>some (.exit id,⟨T,s.H⟩)
   |some (.ret,s)=>some (.ret,⟨T,s.H⟩)
   |none=>none):=fun i j e H=>rfl
 induction h with
 |nil=>intro G;exact⟨G,rfl⟩
 |skip o q t a n m u h z=>
  intro G;obtain⟨F,g,l⟩:=Ai (K:=K) c d o q t a n m u C D false G;obtain⟨f,v⟩:=z g;exact⟨f,by rw[step,l];exact v⟩
 |ok o q t a n m u w x B h z=>
  intro G;obtain⟨F,g,l⟩:=DU (K:=K) c d o q t a n m u w x B C D false G;obtain⟨f,v⟩:=z g;exact⟨f,by rw[step,l];exact v⟩
 |bad o q t a n m u w x B y=>
  intro G;obtain⟨F,g,l⟩:=Cc (K:=K) c d o q t a n m u w x B y C D false G;exact⟨g,by rw[step,l]⟩
theorem BW {E:Xa}{K:Nat}{f:W8}{vars:List Nat}{pre body:XH}{s:St}{c:Nat}{a:List PL}{b:List (List PV)}(e:f.eval s.T=some (.one (.p (.fn c a))))(g:E.iter c a=some b)(d:(pre.flat&&body.flat&&Nat.blt c NA)=true):
  XG E K 0 (.Pt f vars pre body) s=U1 s.T (TP (fun s=>XG E K 0 pre s) (fun s=>XG E K 0 body s)) vars b s.H:=by
 simp only[XG,e,g,d,cond_true]
theorem wL {B:Xs}(h:pX B){e L b:PL}{a:List (List PL)}(g:Sl b a)(j:a.length<1000000)(v:Xx B 50 [.one e] (.one (.bool true)))(o:Xx B 95 [.one L,.one e] (.one b)){r:Bool}(u:X1 B fun E _=>mj E e b a (Si a.length a.length) r):
  Xx B 53 [.one L,.one e] (.one (.bool r)):=by
 have q:=qR h.toStd a.length;refine Xx.of (h.Wa _ _ rfl) ((u.and (o.Xj.and (v.Xj.and (q.Xj.and (h.FV.and h.toStd.Xj))))).mono fun E K ⟨l,e1,ev,k,m,d⟩=> ?_);have c:=g.len;obtain⟨w,n⟩:=DW (K:=K) (T:=[(26,.one (.p (.fn 141 [.ref [.int .i64 (.ofNat a.length)]]))),(25,.one (.p (.int .i64 (.ofNat a.length)))),(24,.one (.p b)),(23,.one (.ptr 1 0 0 1)),(4,.one (.ptr 0 0 0 0)),(5,.one (.ptr 1 0 0 0))]) d g rfl rfl l [];have i:=(BW (E:=E) (K:=K) (f:=.t 26) (vars:=[27,28]) (pre:=wM) (body:=wN) (s:=⟨[(26,.one (.p (.fn 141 [.ref [.int .i64 (.ofNat a.length)]]))),(25,.one (.p (.int .i64 (.ofNat a.length)))),(24,.one (.p b)),(23,.one (.ptr 1 0 0 1)),(4,.one (.ptr 0 0 0 0)),(5,.one (.ptr 1 0 0 0))],A3 false::Bz e b::[]⟩) rfl (m _ j) (by rfl)).trans n;simp only[wM,wN]at i;cases r with
 |true=>simp(decide:=true)only[Xm,Xq,Vm,reduceIte,Nat.reduceAdd,x53,d,X5,ev,e1,k,c,i,FU]
 |false=>simp(decide:=true)only[Xm,Xq,Vm,reduceIte,Nat.reduceAdd,x53,d,X5,ev,e1,k,c,i,FU]
structure wU (d e:Dv):Prop where
 ht:Sq d.1.1
 t0:d.1.1≠0
 hs:Sq e.1.1
 s0:e.1.1≠0
 zt:Sz d.2.1
 zs:Sz e.2.1
 ot:∀u∈d.2.1,XE (Xg (X6 (XD d.1.2 e.1.2) d.1.2) u.2)
 os:∀u∈e.2.1,XE (Xg (X6 (XD d.1.2 e.1.2) e.1.2) u.2)
 rt:Sz (Tn (XD d.1.2 e.1.2) d.1 d.2.1)
 rs:Sz (Tn (XD d.1.2 e.1.2) e.1 e.2.1)
 lt:d.2.1.length<400000
 ls:e.2.1.length<400000
abbrev kC (d e:Dv):List Qm:=eL d.1 d.2.1 e.1 e.2.1
inductive cA (o:List (List Int))(ds:List Dv):List (Nat×Nat)->Bool->Prop
 |nil:cA o ds [] true
 |skip {i j:Nat} {d e:Dv} {ps:List (Nat×Nat)} {r:Bool} (hi:ds[i]? =some d) (hj:ds[j]? =some e) (hg:P2 d.1.2 e.1.2=Tp) (h:cA o ds ps r):cA o ds ((i,j)::ps) r
 |ok {i j n:Nat} {d e:Dv} {ps:List (Nat×Nat)} {r:Bool} {qs':List (List Qm)} (hi:ds[i]? =some d) (hj:ds[j]? =some e) (hg:P2 d.1.2 e.1.2≠Tp) (hs:wU d e) (hd:T5 (kC d e)) (hl:(kC d e).length<60000)
   (hr:aR o Sq Pw XE ds true n (Vu o (kC d e)) (List.replicate ds.length []) [] qs' []) (h:cA o ds ps r):cA o ds ((i,j)::ps) r
 |bad {i j n:Nat} {d e:Dv} {ps:List (Nat×Nat)} {qs':List (List Qm)} {r':List Qm} (hi:ds[i]? =some d) (hj:ds[j]? =some e) (hg:P2 d.1.2 e.1.2≠Tp) (hs:wU d e) (hd:T5 (kC d e)) (hl:(kC d e).length<60000)
   (hr:aR o Sq Pw XE ds true n (Vu o (kC d e)) (List.replicate ds.length []) [] qs' r') (hne:r'≠[]):cA o ds ((i,j)::ps) false
theorem Aj {B:Xs}(t:pX B){lo v:PL}{o:List (List Int)}(so:SG lo o)(ho:V3 o)(D:o.length<1000000){s:List (List PL)}{P:List Dv}(N:Sl v s)(b:gX s P)(y:P.length<1000000){L:List (Nat×Nat)}{r:Bool}(h:cA o P L r):X1 B fun E _=>mj E lo v s L r:=by
 induction h with
 |nil=>exact X1.of fun _ _=>.nil
 |@skip i j d e L r z A u h X=>
  obtain⟨dc,H,c⟩:=b.get i d z;obtain⟨ec,I,f⟩:=b.get j e A;have g:=c.qj;have k:=f.qj;have w:=bI t.toStd g k;have x:(P2 d.1.2 e.1.2).length=8:=by rw[u];rfl
  obtain⟨a1,a2,a3,a4,pp,O,rfl,q,hk,F,G⟩:=c;obtain⟨b1,b2,b3,b4,J,M,rfl,q2,C,m,p⟩:=f;exact(X.and w.Xj).mono fun E K ⟨Q,e1⟩=>.skip H I g.1 k.1 x e1 u Q
 |@ok i j n d e L r Y z A u a S U W h X=>
  obtain⟨dc,H,c⟩:=b.get i d z;obtain⟨ec,I,f⟩:=b.get j e A;have g:=c.qj;have k:=f.qj;have w:=bI t.toStd g k;have x:(P2 d.1.2 e.1.2).length=8:=by simp[P2,g.1,k.1]
  obtain⟨sp,Z,s2⟩:=PJ t.toStd c f a.ht a.t0 a.hs a.s0 a.zt a.zs a.ot a.os a.rt a.rs a.lt a.ls;obtain⟨ls,O,v1,v2,es,v3,v4⟩:=PN t.todJ (l:=9223372036854775807) (by omega) so ho D N b y (lp:=.Xp sp) ⟨_,.Xp,s2⟩ S U W;cases v4;obtain⟨a1,a2,a3,a4,pp,O,rfl,q,hk,F,G⟩:=c;obtain⟨b1,b2,b3,b4,J,M,rfl,q2,C,m,p⟩:=f;exact(X.and (w.Xj.and (Z.Xj.and v1.Xj))).mono fun E K ⟨Q,e1,e2,R⟩=>.ok H I g.1 k.1 x e1 u e2 R v3 Q
 |@bad i j n d e L Y r' z A u a S U W V=>
  obtain⟨dc,H,c⟩:=b.get i d z;obtain⟨ec,I,f⟩:=b.get j e A;have g:=c.qj;have k:=f.qj;have w:=bI t.toStd g k;have x:(P2 d.1.2 e.1.2).length=8:=by simp[P2,g.1,k.1]
  obtain⟨sp,Z,s2⟩:=PJ t.toStd c f a.ht a.t0 a.hs a.s0 a.zt a.zs a.ot a.os a.rt a.rs a.lt a.ls;obtain⟨ls,O,v1,v2,es,v3,v4⟩:=PN t.todJ (l:=9223372036854775807) (by omega) so ho D N b y (lp:=.Xp sp) ⟨_,.Xp,s2⟩ S U W;have T:0<es.length:=by rw[v4.length];exact List.length_pos_iff.2 V
  obtain⟨a1,a2,a3,a4,pp,O,rfl,q,hk,F,G⟩:=c;obtain⟨b1,b2,b3,b4,J,M,rfl,q2,C,m,p⟩:=f;exact(w.Xj.and (Z.Xj.and v1.Xj)).mono fun E K ⟨e1,e2,R⟩=>.bad H I g.1 k.1 x e1 u e2 R v3 T
theorem lg {B:Xs}(g:pX B){k L:PL}{o:List (List Int)}(p:SG k o)(m:V3 o)(c:o.length<1000000)(w:Xx B 50 [.one k] (.one (.bool true))){d:List PL}{a:List (List Qm)}(x:Sl L (Xf d))(j:Ut d a)(u:∀f∈a,T5 f/\f.length<60000)(v:a.length<400000)
  (i:(Ws o a 0).length<1000000) {r:Bool} (h:cA o (Ws o a 0) (Si (Ws o a 0).length (Ws o a 0).length) r):Xx B 53 [.one L,.one k] (.one (.bool r)):=by
 obtain⟨q,s,t,e,l⟩:=Pd g.todJ p m c x j u v;have b:=l.length;have n:=Aj g p m c e l i h;rw[<-b]at n;exact wL g e (by omega) w t n
end Go.Proofs.YtidginchkjhobaaGreat
