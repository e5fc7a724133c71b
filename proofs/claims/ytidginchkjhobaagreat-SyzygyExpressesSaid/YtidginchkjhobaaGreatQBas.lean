/- Division: IsBasis of the program, its rounds (written by gen_qbas.py). -/
import Derived.Test.YtidginchkjhobaaGreatQDvdB
import Derived.OwnWalkIn
import Derived.BigFrameIn
import Derived.TacticsInMore
import Derived.LoopIn
set_option maxHeartbeats 16000000
set_option maxRecDepth 100000
namespace Go.Ev
open Go.Proofs.YtidginchkjhobaaGreat Go.Proofs
def qY:XN:=.VS [4,5,27,28] (sQ (rG [mV 6 27]) (rG [mV 7 28]))
def Ca:XN:=.block 1 (sQ (.R2 [oP 29 (.fieldAddr 1) [.t 5],oA 30 (.load false 1) [.t 29] [0],mV 31 6,oA 32 (.Ov 15) [.t 30,.t 31] [1,2,0],oA 33 (.load true 15) [.t 32] [3,1,2,0],oP 34 (.fieldAddr 1) [.t 5],oA 35 (.load false 1) [.t 34] [5],mV 36 7,oA 37 (.Ov 15) [.t 35,.t 36] [6,7,5],oA 38 (.load true 15) [.t 37] [8,6,7,5],oP 8 (.alloc 140 [.bool false,.Xp,.bool false,.Xp,cI 0,cI 0,cI 0,cI 0,cI 0,cI 0,cI 0,cI 0,.Xp,.Xp,cI 0]) [],oP 9 (.alloc 140 [.bool false,.Xp,.bool false,.Xp,cI 0,cI 0,cI 0,cI 0,cI 0,cI 0,cI 0,cI 0,.Xp,.Xp,cI 0]) [],oN (.store 15) [.t 8,.t 33] [4,10,11,3,1,2,0]] [oN (.store 15) [.t 9,.t 38] [9,12,8,6,7,5,4,10,11,3,1,2,0]]) (.VS [4,5,8,9] (sQ (sQ (rG [oP 39 (.fieldAddr 0) [.t 8],oP 40 (.fieldAddr 4) [.t 39],oP 41 (.load true 8) [.t 40],oP 42 (.fieldAddr 0) [.t 9],oP 43 (.fieldAddr 4) [.t 42],oP 44 (.load true 8) [.t 43],oP 45 (.call 97) [.t 41,.t 44],oP 46 (.build [cI 0,cI 0,cI 0,cI 0,cI 0,cI 0,cI 0,cI 0] []) [],oP 47 (.bE false .i64 8) [.t 45,.t 46]]) (.VS [4,5,8,9,47] (.cond (.t 47) (.exit 1) .skip))) (.VS [4,5,8,9] (sQ (rG [oP 49 (.load true 15) [.t 8],oP 50 (.load true 15) [.t 9],oP 51 (.call 98) [.t 49,.t 50],mV 48 51,oP 52 (.extract 0) [.t 48],oP 53 (.extract 1) [.t 48],mV 10 52,mV 11 53]) (.VS [4,5,10,11] (sQ (sQ (rG [mV 54 11,oP 55 (.bin .neq) [.t 54,cC 0]]) (.cond (.t 55) (sQ (rG [oN (.store 1) [.t 4,cF] []]) .ret) .skip)) (sQ (rG [oP 57 (.load true 4) [.t 5],mV 58 10,oP 59 (.call 99) [.t 57,.t 58],mV 56 59,oP 60 (.extract 0) [.t 56],oP 61 (.extract 1) [.t 56],oP 62 (.extract 2) [.t 56],mV 12 60,mV 13 61,mV 14 62]) (.VS [4,5,13] (sQ (rG [mV 63 13,oP 64 .len [.t 63],oP 65 (.bin .gtr) [.t 64,cC 0]]) (.cond (.t 65) (sQ (rG [oN (.store 1) [.t 4,cF] []]) .ret) .skip)))))))))))
abbrev mK (E:Xa)(K:Nat):St->Option (Ex×St):=SG (fun s=>XP E K 0 qY s) (fun s=>XP E K 0 Ca s)
abbrev GG (b:Bool):Xx:=⟨false,0,1,[[.p (.bool b)]],false,4⟩
abbrev Ha (lo by_:PL):Xx:=RT lo by_ 9223372036854775807 (.bool true)
theorem J3 {a b:Type}{f:a->b->Prop}{x}{y}(h:f x y):∃x y,f x y:=⟨x,y,h⟩
theorem FE {E}{K i j}(s:E.mode=md){P d}{f}(o:Sl d f){a b c e p q a2 b2 c2 e2 p2 q2}{m m2 g}{ix u}(hi:f[i]? =some (S4 a b c e m p q ix))(hj:f[j]? =some (S4 a2 b2 c2 e2 m2 p2 q2 u))(B:m.length=8)(l:m2.length=8)(hg:g.length=8)
  (z:E.pure 97 [.agg (mo m),.agg (mo m2)]=some (.agg (mo g))) (t:g=Ut) {T} (t4:Xi T 4=some (.one (.ptr 0 0 0 0))) (t5:Xi T 5=some (.one (.ptr 1 0 0 0))) (w) (G):
  ∃T' Z,mK E K ⟨(28,La1 j)::(27,La1 i)::T,GG w::Ha P d::G⟩=some (.normal,⟨T',GG w::Ha P d::Z⟩):=by
 have C:=fun(r:HF) (v:IntKind)=>o.idx (h:=r) (k:=v) (sz:=15) hi (by simp[S4,XI,B])
 have D:=fun(r:HF) (v:IntKind)=>o.idx (h:=r) (k:=v) (sz:=15) hj (by simp[S4,XI,l])
 have A:=U3 hg (n:=Ut) rfl;have tg:(Xu g).take 8=Xu g:=Ze (by rw[Xc];omega);obtain⟨F,H,I,J,L,M,N,O,rfl⟩:=eight B;obtain⟨Q,R,S,U,V,W,X,Y,rfl⟩:=eight l;have x:mo [F,H,I,J,L,M,N,O]=[La0 F,La0 H,La0 I,La0 J,La0 L,La0 M,La0 N,La0 O]:=rfl;have y:mo [Q,R,S,U,V,W,X,Y]=[La0 Q,La0 R,La0 S,La0 U,La0 V,La0 W,La0 X,La0 Y]:=rfl;have z8:Xu Ut=[.p (La0 0),.p (La0 0),.p (La0 0),.p (La0 0),.p (La0 0),.p (La0 0),.p (La0 0),.p (La0 0)]:=rfl;rw[z8]at A;simp only[S4,x,y,ZD,ZB]at C D;rw[x,y]at z;have t:=decide_eq_true t;apply J3;simp+decide only[mK,SG,qY,Ca,Xo,Xs,VD,Vv,reduceIte,Nat.reduceEqDiff,Nat.reduceLeDiff,Nat.reduceAdd,s,X3,t4,t5,C,D,z,A,t,Wj,VM,V4,Wk,Wp,Zp,Zn,Zw,BEq.rfl];rfl
theorem Kf {E}{K i j}(x:E.mode=md){A d}{f}(t:Sl d f){a b c e p q B C F e2 p2 q2}{m m2 g}{N s}(hi:f[i]? =some (S4 a b c e m p q N))(hj:f[j]? =some (S4 B C F e2 m2 p2 q2 s))(L:m.length=8)(o:m2.length=8)(hg:g.length=8)
  (H:E.pure 97 [.agg (mo m),.agg (mo m2)]=some (.agg (mo g))) (y:g≠Ut) {sp qq r} (I:E.pure 98 [.agg (S4 a b c e m p q N),.agg (S4 B C F e2 m2 p2 q2 s)]=some (.Wd [.one sp,.one (La0 0)])) (h3:E.pure 99 [.agg [A,d,La0 9223372036854775807,.bool true],.one sp]=some (.Wd [.one qq,.one r,.one (.bool true)])) (sr:Sl r []) {T} (t4:Xi T 4=some (.one (.ptr 0 0 0 0))) (t5:Xi T 5=some (.one (.ptr 1 0 0 0))) (D) (G):
  ∃T' G',mK E K ⟨(28,La1 j)::(27,La1 i)::T,GG D::Ha A d::G⟩=some (.normal,⟨T',GG D::Ha A d::G'⟩):=by
 have M:=fun(w:HF) (z:IntKind)=>t.idx (h:=w) (k:=z) (sz:=15) hi (by simp[S4,XI,L])
 have O:=fun(w:HF) (z:IntKind)=>t.idx (h:=w) (k:=z) (sz:=15) hj (by simp[S4,XI,o])
 have J:=U3 hg (n:=Ut) rfl;have tg:(Xu g).take 8=Xu g:=Ze (by rw[Xc];omega);obtain⟨P,Q,R,S,U,V,W,X,rfl⟩:=eight L;obtain⟨Y,Z,n3,n4,n5,n6,n7,n8,rfl⟩:=eight o;have u:mo [P,Q,R,S,U,V,W,X]=[La0 P,La0 Q,La0 R,La0 S,La0 U,La0 V,La0 W,La0 X]:=rfl;have v:mo [Y,Z,n3,n4,n5,n6,n7,n8]=[La0 Y,La0 Z,La0 n3,La0 n4,La0 n5,La0 n6,La0 n7,La0 n8]:=rfl;have z8:Xu Ut=[.p (La0 0),.p (La0 0),.p (La0 0),.p (La0 0),.p (La0 0),.p (La0 0),.p (La0 0),.p (La0 0)]:=rfl;rw[z8]at J;simp only[S4,u,v,ZD,ZB]at M O;rw[u,v]at H;have y:=decide_eq_false y;simp only[S4,u,v,ZD,ZB]at I;have l:=sr.len;apply J3;simp+decide only[mK,SG,qY,Ca,Xo,Xs,VD,Vv,reduceIte,Nat.reduceEqDiff,Nat.reduceLeDiff,Nat.reduceAdd,x,X3,t4,t5,M,O,H,J,y,Wj,VM,V4,Wk,Wp,Zp,Zn,Zw,I,h3,l];rfl
theorem HZ {E}{K i j}(y:E.mode=md){B d}{f}(t:Sl d f){a b c e p q C D F e2 p2 q2}{m m2 g}{O s}(hi:f[i]? =some (S4 a b c e m p q O))(hj:f[j]? =some (S4 C D F e2 m2 p2 q2 s))(M:m.length=8)(o:m2.length=8)(hg:g.length=8)
  (I:E.pure 97 [.agg (mo m),.agg (mo m2)]=some (.agg (mo g))) (z:g≠Ut) {sp qq r} {H} (J:E.pure 98 [.agg (S4 a b c e m p q O),.agg (S4 C D F e2 m2 p2 q2 s)]=some (.Wd [.one sp,.one (La0 0)])) (h3:E.pure 99 [.agg [B,d,La0 9223372036854775807,.bool true],.one sp]=some (.Wd [.one qq,.one r,.one (.bool true)])) (sr:Sl r H) (w:0<H.length) {T} (t4:Xi T 4=some (.one (.ptr 0 0 0 0))) (t5:Xi T 5=some (.one (.ptr 1 0 0 0))) (bb) (G):
  ∃T' G',mK E K ⟨(28,La1 j)::(27,La1 i)::T,GG bb::Ha B d::G⟩=some (.ret,⟨T',GG false::Ha B d::G'⟩):=by
 have N:=fun(x:HF) (A:IntKind)=>t.idx (h:=x) (k:=A) (sz:=15) hi (by simp[S4,XI,M])
 have P:=fun(x:HF) (A:IntKind)=>t.idx (h:=x) (k:=A) (sz:=15) hj (by simp[S4,XI,o])
 have L:=U3 hg (n:=Ut) rfl;have tg:(Xu g).take 8=Xu g:=Ze (by rw[Xc];omega);obtain⟨Q,R,S,U,V,W,X,Y,rfl⟩:=eight M;obtain⟨Z,n2,n3,n4,n5,n6,n7,n8,rfl⟩:=eight o;have u:mo [Q,R,S,U,V,W,X,Y]=[La0 Q,La0 R,La0 S,La0 U,La0 V,La0 W,La0 X,La0 Y]:=rfl;have v:mo [Z,n2,n3,n4,n5,n6,n7,n8]=[La0 Z,La0 n2,La0 n3,La0 n4,La0 n5,La0 n6,La0 n7,La0 n8]:=rfl;have z8:Xu Ut=[.p (La0 0),.p (La0 0),.p (La0 0),.p (La0 0),.p (La0 0),.p (La0 0),.p (La0 0),.p (La0 0)]:=rfl;rw[z8]at L;simp only[S4,u,v,ZD,ZB]at N P;rw[u,v]at I;have z:=decide_eq_false z;simp only[S4,u,v,ZD,ZB]at J;have l:=sr.len;apply J3;simp+decide only[mK,SG,qY,Ca,Xo,Xs,VD,Vv,reduceIte,Nat.reduceEqDiff,Nat.reduceLeDiff,Nat.reduceAdd,y,X3,t4,t5,N,P,I,L,z,Wj,VM,V4,Wk,Wp,Zp,Zn,Zw,J,h3,l,w];rfl
open Go.RowKit
attribute [local go_sem] Oper.semAt_some
def pN (n i:Nat):List (Nat×Nat):=(List.range (n-(i+1))).map fun k=>(i,i+1+k)
def RU (n i:Nat):List (Nat×Nat):=(List.range i).flatMap (pN n)
theorem nF (n i):RU n (i+1)=RU n i++pN n i:=by simp[RU,List.range_succ]
theorem DK (n i k)(c:i<n)(f:i+1+k<n):(RU n n)[(RU n i).length+k]? =some (i,i+1+k):=by
 have split:∀m,i<m->∃r,RU n m=RU n i++pN n i++r:=by
  intro m;induction m with
  |zero=>intro h;omega
  |succ m d=>
   intro h;rw[nF];by_cases e:i=m
   ·subst e;exact⟨[],by simp⟩
   ·obtain⟨r,a⟩:=d (by omega);exact⟨r++pN n m,by rw[a];simp⟩
 obtain⟨r,a⟩:=split n c;rw[a,Zp,ZZ (by omega)];rw[show(RU n i).length+k-(RU n i).length=k by omega];have b:(pN n i).length=n-(i+1):=by simp[pN]
 rw[Z9 (by omega)];simp only[pN,ZR,List.getElem?_range (show k<n-(i+1)by omega),Ym]
theorem my (n i):(RU n (i+1)).length=(RU n i).length+(n-(i+1)):=by rw[nF];simp[pN]
def F5 (n:Nat):List (List PV):=(RU n n).map fun p=>[.one (.int .i64 p.1),.one (.int .i64 p.2)]
theorem GY (n i j)(a:i<j)(b:j<n):(F5 n)[(RU n i).length+(j-(i+1))]? =some [.one (.int .i64 i),.one (.int .i64 j)]:=by
 simp only[F5,ZR];rw[DK n i (j-(i+1)) (by omega) (by omega),show i+1+(j-(i+1))=j by omega];rfl
theorem JI {w}{L}{v}{k}{z}(h:Ws w L v (.int k z)):v=.int k z:=by
 generalize a:PL.int k z=l at h;cases h<;>cases a;rfl
theorem Du {w}{L}{b a}{k}{z}(h:Ws w L (.pointer (some ⟨b,a,none⟩)) (.ref [.int k z])):w.cell? ⟨b,a,none⟩=some (.int k z):=by
 generalize f:PL.ref [PL.int k z]=l at h;generalize i:Value.pointer (some ⟨b,a,none⟩)=v at h;cases h<;>cases f;rename_i d j e g;cases i;have c:=e 0 _ rfl;rw[JI (g 0 _ rfl)]at c;simpa using c
theorem wx (n:Nat)(S:n<1000000):xS Tryz.prog 141 [.ref [.int .i64 n]] (F5 n):=by
 intro l D J C a F W h0;have t:∃v,D=[v]:=by
  obtain⟨L,m⟩:=a 0 W h0;cases m with
  |cons _ h=>cases h;exact⟨_,rfl⟩
 obtain⟨v,rfl⟩:=t;obtain⟨b,f,rfl⟩:∃b f,v=.pointer (some ⟨b,f,none⟩):=by
  obtain⟨L,m⟩:=a 0 W h0;cases m with
  |cons h _=>cases h;exact⟨_,_,rfl⟩
 have c:∀i W,J i W->W.cell? ⟨b,f,none⟩=some (.int .i64 n):=by
  intro i W q;obtain⟨L,m⟩:=a i W q;cases m with
  |cons h _=>exact Du h
 have s:∀i j W,i<j->j<n->J ((RU n i).length+(j-(i+1))) W->YieldAt Fence.wide 0 Tryz.prog l #[.int .i64 (i:Int),.int .i64 (j:Int)] W fun e A=>(e=.returned (.bool true)/\J ((RU n i).length+(j-(i+1))+1) A)\/(e=.returned (.bool false)/\C A):=by
  intro i j W u I q;exact F _ W _ [.int .i64 (i:Int),.int .i64 (j:Int)] q (GY n i j u I) (.cons (fun L O h=>XH.p _ _ (.int _ _)) (.cons (fun L O h=>XH.p _ _ (.int _ _)) .nil))
 refine callsIn_of_wp Tryz.func141 rfl trivial ?_ rfl;simp only[Tryz.ntmps141,List.size_toArray,Zj,Zr,Nat.reduceAdd,Nat.reduceSub,Array.replicate_succ,Array.replicate_zero,List.push_toArray,List.append_toArray,ZB,ZD];have G:=c 0 W h0
 gi_wp2
 gi_loopw [6] (fun x N=>∃i:Nat,i<=n/\x=.int .i64 (i:Int)/\J (RU n i).length N)
  (fun x _=>n-(intOf x).toNat)
 case atStart=>exact⟨0,Zw _,rfl,by simpa[RU]using h0⟩
 case round=>
  obtain⟨i,R,rfl,g⟩:=hrel;by_cases y:i<n
  ·have B:(i:Int)<(n:Int):=by omega
   gi_wp2
   gi_loopw [4] (fun x z=>∃j:Nat,i+1<=j/\j<=n/\x=.int .i64 (j:Int)/\J ((RU n i).length+(j-(i+1))) z)
    (fun x _=>n-(intOf x).toNat)
   case atStart=>exact⟨i+1,Zf _,y,by simp,by simpa using g⟩
   case round=>
    obtain⟨j,K,M,rfl,d⟩:=hrel;have H:=c _ _ d;by_cases o:j<n
    ·have w:(j:Int)<(n:Int):=by omega
     obtain⟨Q,tmps,assign,body,T,E⟩:=s i j _ (by omega) o d
     gi_wp2
     refine⟨rfl,E.mono ?_⟩;rintro e P (⟨rfl,r⟩|⟨rfl,k⟩)
     ·gi_wp2
      go_roundw
      case rel=>exact⟨j+1,by omega,by omega,by simp,by rw[show(RU n i).length+(j+1-(i+1))=(RU n i).length+(j-(i+1))+1 by omega];exact r⟩
      case measure=>simp[intOf];omega
     ·gi_wp2
      refine bodyPost_ret (results_none rfl _ _ _) rfl ?_;exact⟨⟨_,rfl⟩,.inr k⟩
    ·obtain rfl:j=n:=by omega
     gi_wp2
     refine⟨⟨i+1,by omega,by simp,?_⟩,by simp[intOf];omega⟩;rw[my];exact d
  ·obtain rfl:i=n:=by omega
   gi_wp2
   go_end0
   refine⟨⟨_,rfl⟩,.inl ?_⟩;have :(F5 i).length=(RU i i).length:=by simp[F5]
   rw[this];exact g
structure mL (B:Xq):Prop extends fG B where
 it:∀n,n<1000000->B.E0.iter 141 [.ref [La0 n]]=some (F5 n)
theorem Xq.iter (B:Xq)(K n:Nat):(B.E K n).iter=B.E0.iter:=by
 induction n with
 |zero=>rfl
 |succ n a=>exact a
theorem mL.M0 {B:Xq}(a:mL B):XT B fun E _=>∀n,n<1000000->E.iter 141 [.ref [La0 n]]=some (F5 n):=
 XT.of fun K n m b=>by rw[Xq.iter];exact a.it m b
theorem wm {B}(b:Std B)(n):Xv B 96 [.one (La0 n)] (.one (.fn 141 [.ref [La0 n]])):=by
 have a:Tk 141 [.one (.ptr 0 0 0 0)]=some ⟨.one (.fn 141 [.ptr 0 0 0 0]),[],[],[]⟩:=rfl;refine Xv.of (b.Wa _ _ rfl) (b.Xk.mono fun E K c=> ?_);simp+decide only[Xo,Xs,reduceIte,x96,a];rfl
inductive ru (E:Xa)(lo by_:PL)(dcs:Z'):List (Nat×Nat)->Bool->Prop
 |nil:ru E lo by_ dcs [] true
 |skip {i j:Nat} {ps:List (Nat×Nat)} {r:Bool} {a b c e p q a2 b2 c2 e2 p2 q2:PL} {m m2 g:P'} {ix ix2:Nat} (hi:dcs[i]? =some (S4 a b c e m p q ix)) (hj:dcs[j]? =some (S4 a2 b2 c2 e2 m2 p2 q2 ix2)) (hm:m.length=8) (hm2:m2.length=8) (hg:g.length=8)
   (h1:E.pure 97 [.agg (mo m),.agg (mo m2)]=some (.agg (mo g))) (hz:g=Ut) (h:ru E lo by_ dcs ps r):ru E lo by_ dcs ((i,j)::ps) r
 |ok {i j:Nat} {ps:List (Nat×Nat)} {r:Bool} {a b c e p q a2 b2 c2 e2 p2 q2:PL} {m m2 g:P'} {ix ix2:Nat} (hi:dcs[i]? =some (S4 a b c e m p q ix)) (hj:dcs[j]? =some (S4 a2 b2 c2 e2 m2 p2 q2 ix2)) (hm:m.length=8) (hm2:m2.length=8) (hg:g.length=8)
   (h1:E.pure 97 [.agg (mo m),.agg (mo m2)]=some (.agg (mo g))) (hz:g≠Ut) {sp qq rr:PL} (h2:E.pure 98 [.agg (S4 a b c e m p q ix),.agg (S4 a2 b2 c2 e2 m2 p2 q2 ix2)]=some (.Wd [.one sp,.one (La0 0)]))
   (h3:E.pure 99 [.agg [lo,by_,La0 9223372036854775807,.bool true],.one sp]=some (.Wd [.one qq,.one rr,.one (.bool true)])) (sr:Sl rr []) (h:ru E lo by_ dcs ps r):ru E lo by_ dcs ((i,j)::ps) r
 |bad {i j:Nat} {ps:List (Nat×Nat)} {a b c e p q a2 b2 c2 e2 p2 q2:PL} {m m2 g:P'} {ix ix2:Nat} (hi:dcs[i]? =some (S4 a b c e m p q ix)) (hj:dcs[j]? =some (S4 a2 b2 c2 e2 m2 p2 q2 ix2)) (hm:m.length=8) (hm2:m2.length=8) (hg:g.length=8)
   (h1:E.pure 97 [.agg (mo m),.agg (mo m2)]=some (.agg (mo g))) (hz:g≠Ut) {sp qq rr:PL} {es:Z'} (h2:E.pure 98 [.agg (S4 a b c e m p q ix),.agg (S4 a2 b2 c2 e2 m2 p2 q2 ix2)]=some (.Wd [.one sp,.one (La0 0)]))
   (h3:E.pure 99 [.agg [lo,by_,La0 9223372036854775807,.bool true],.one sp]=some (.Wd [.one qq,.one rr,.one (.bool true)])) (sr:Sl rr es) (hes:0<es.length):ru E lo by_ dcs ((i,j)::ps) false
abbrev MQ (ps:List (Nat×Nat)):List (List PV):=ps.map fun p=>[.one (.int .i64 p.1),.one (.int .i64 p.2)]
abbrev MY (b:Bool):Ex:=match b with |true=>.normal|false=>.ret
theorem Kg {E}{K}(c:E.mode=md){A b}{k}(d:Sl b k){T}(C:Xi T 4=some (.one (.ptr 0 0 0 0)))(D:Xi T 5=some (.one (.ptr 1 0 0 0))){e}{r}(h:ru E A b k e r):
  ∀G,∃f,Tz T (mK E K) [27,28] (MQ e) (GG false::Ha A b::G)=some (MY r,⟨T,GG false::Ha A b::f⟩):=by
 have step:∀(i j:Nat) (e:List (Nat×Nat)) (H:V'),Tz T (mK E K) [27,28] (MQ ((i,j)::e)) H=(match mK E K ⟨(28,La1 j)::(27,La1 i)::T,H⟩with
   |some (.normal,s)=>Tz T (mK E K) [27,28] (MQ e) s.H
   |some (.exit id,s)=>some (.exit id,⟨T,s.H⟩)
   |some (.ret,s)=>some (.ret,⟨T,s.H⟩)
   |none=>none):=fun i j e H=>rfl
 induction h with
 |nil=>intro G;exact⟨G,rfl⟩
 |skip o q t a n m u h z=>
  intro G;obtain⟨F,g,l⟩:=FE (K:=K) c d o q t a n m u C D false G;obtain⟨f,v⟩:=z g;exact⟨f,by rw[step,l];exact v⟩
 |ok o q t a n m u w x B h z=>
  intro G;obtain⟨F,g,l⟩:=Kf (K:=K) c d o q t a n m u w x B C D false G;obtain⟨f,v⟩:=z g;exact⟨f,by rw[step,l];exact v⟩
 |bad o q t a n m u w x B y=>
  intro G;obtain⟨F,g,l⟩:=HZ (K:=K) c d o q t a n m u w x B y C D false G;exact⟨g,by rw[step,l]⟩
theorem HH {E}{K}{f:VB}{vars}{pre body}{s}{c}{a}{b:List (List PV)}(e:f.eval s.T=some (La4 (.fn c a)))(g:E.iter c a=some b)(d:(pre.flat&&body.flat&&Nat.blt c bF)=true):
  XP E K 0 (.OJ f vars pre body) s=Tz s.T (SG (fun s=>XP E K 0 pre s) (fun s=>XP E K 0 body s)) vars b s.H:=by
 simp only[XP,e,g,d,cond_true]
theorem B9 {B}(h:mL B){e L b}{a}(g:Sl b a)(j:a.length<1000000)(v:Xv B 50 [.one e] (.one (.bool true)))(o:Xv B 95 [.one L,.one e] (.one b)){r}(u:XT B fun E _=>ru E e b a (RU a.length a.length) r):
  Xv B 53 [.one L,.one e] (.one (.bool r)):=by
 have q:=wm h.toStd a.length;refine Xv.of (h.Wa _ _ rfl) ((u.and (o.Xk.and (v.Xk.and (q.Xk.and (h.M0.and h.toStd.Xk))))).mono fun E K ⟨l,e1,ev,k,m,d⟩=> ?_);have c:=g.len;obtain⟨w,n⟩:=Kg (K:=K) (T:=[(26,La4 (.fn 141 [.ref [La0 a.length]])),(25,La1 a.length),(24,La4 b),(23,.one (.ptr 1 0 0 1)),(4,.one (.ptr 0 0 0 0)),(5,.one (.ptr 1 0 0 0))]) d g rfl rfl l [];have i:=(HH (E:=E) (K:=K) (f:=.t 26) (vars:=[27,28]) (pre:=qY) (body:=Ca) (s:=⟨[(26,La4 (.fn 141 [.ref [La0 a.length]])),(25,La1 a.length),(24,La4 b),(23,.one (.ptr 1 0 0 1)),(4,.one (.ptr 0 0 0 0)),(5,.one (.ptr 1 0 0 0))],GG false::Ha e b::[]⟩) rfl (m _ j) (by rfl)).trans n;simp only[qY,Ca]at i;cases r with
 |true=>simp+decide only[Xo,Xs,Vv,reduceIte,Nat.reduceAdd,x53,d,X3,ev,e1,k,c,i,MY]
 |false=>simp+decide only[Xo,Xs,Vv,reduceIte,Nat.reduceAdd,x53,d,X3,ev,e1,k,c,i,MY]
structure FM (d e:Dv):Prop where
 ht:Sq d.1.1
 t0:d.1.1≠0
 hs:Sq e.1.1
 s0:e.1.1≠0
 zt:Sz d.2.1
 zs:Sz e.2.1
 ot:∀u∈d.2.1,XA (Xg (XO (XM d.1.2 e.1.2) d.1.2) u.2)
 os:∀u∈e.2.1,XA (Xg (XO (XM d.1.2 e.1.2) e.1.2) u.2)
 rt:Sz (SI (XM d.1.2 e.1.2) d.1 d.2.1)
 rs:Sz (SI (XM d.1.2 e.1.2) e.1 e.2.1)
 lt:d.2.1.length<400000
 ls:e.2.1.length<400000
abbrev lX (d e:Dv):I':=vN d.1 d.2.1 e.1 e.2.1
inductive ry (o:M')(ds:List Dv):List (Nat×Nat)->Bool->Prop
 |nil:ry o ds [] true
 |skip {i j:Nat} {d e:Dv} {ps:List (Nat×Nat)} {r:Bool} (hi:ds[i]? =some d) (hj:ds[j]? =some e) (hg:Pb d.1.2 e.1.2=Ut) (h:ry o ds ps r):ry o ds ((i,j)::ps) r
 |ok {i j n:Nat} {d e:Dv} {ps:List (Nat×Nat)} {r:Bool} {qs':S'} (hi:ds[i]? =some d) (hj:ds[j]? =some e) (hg:Pb d.1.2 e.1.2≠Ut) (hs:FM d e) (hd:S3 (lX d e)) (hl:(lX d e).length<60000)
   (hr:dI o Sq Q4 XA ds true n (VI o (lX d e)) (List.replicate ds.length []) [] qs' []) (h:ry o ds ps r):ry o ds ((i,j)::ps) r
 |bad {i j n:Nat} {d e:Dv} {ps:List (Nat×Nat)} {qs':S'} {r':I'} (hi:ds[i]? =some d) (hj:ds[j]? =some e) (hg:Pb d.1.2 e.1.2≠Ut) (hs:FM d e) (hd:S3 (lX d e)) (hl:(lX d e).length<60000)
   (hr:dI o Sq Q4 XA ds true n (VI o (lX d e)) (List.replicate ds.length []) [] qs' r') (hne:r'≠[]):ry o ds ((i,j)::ps) false
theorem FF {B}(s:mL B){lo u}{o}(so:SA lo o)(ho:Vq o)(C:o.length<1000000){p}{O}(M:Sl u p)(b:lT p O)(x:O.length<1000000){J}{r}(h:ry o O J r):XT B fun E _=>ru E lo u p J r:=by
 induction h with
 |nil=>exact XT.of fun _ _=>.nil
 |@skip i j d e J r y z t h W=>
  obtain⟨dc,G,c⟩:=b.get i d y;obtain⟨ec,H,f⟩:=b.get j e z;have g:=c.vC;have m2:=f.vC;have v:=eB s.toStd g m2;have w:(Pb d.1.2 e.1.2).length=8:=by rw[t];rfl
  obtain⟨a1,a2,a3,a4,pp,N,rfl,q,hk,D,F⟩:=c;obtain⟨b1,b2,b3,b4,I,L,rfl,q2,A,k,m⟩:=f;exact(W.and v.Xk).mono fun E K ⟨P,e1⟩=>.skip G H g.1 m2.1 w e1 t P
 |@ok i j n d e J r X y z t a R T V h W=>
  obtain⟨dc,G,c⟩:=b.get i d y;obtain⟨ec,H,f⟩:=b.get j e z;have g:=c.vC;have m2:=f.vC;have v:=eB s.toStd g m2;have w:(Pb d.1.2 e.1.2).length=8:=by simp[Pb,g.1,m2.1]
  obtain⟨sp,Y,Z⟩:=O4 s.toStd c f a.ht a.t0 a.hs a.s0 a.zt a.zs a.ot a.os a.rt a.rs a.lt a.ls;obtain⟨ls,N,v1,v2,es,v3,v4⟩:=O8 s.tofG (l:=9223372036854775807) (by omega) so ho C M b x (lp:=.Xl sp) ⟨_,.Xl,Z⟩ R T V;cases v4;obtain⟨a1,a2,a3,a4,pp,N,rfl,q,hk,D,F⟩:=c;obtain⟨b1,b2,b3,b4,I,L,rfl,q2,A,k,m⟩:=f;exact(W.and (v.Xk.and (Y.Xk.and v1.Xk))).mono fun E K ⟨P,e1,e2,Q⟩=>.ok G H g.1 m2.1 w e1 t e2 Q v3 P
 |@bad i j n d e J X r' y z t a R T V U=>
  obtain⟨dc,G,c⟩:=b.get i d y;obtain⟨ec,H,f⟩:=b.get j e z;have g:=c.vC;have m2:=f.vC;have v:=eB s.toStd g m2;have w:(Pb d.1.2 e.1.2).length=8:=by simp[Pb,g.1,m2.1]
  obtain⟨sp,Y,Z⟩:=O4 s.toStd c f a.ht a.t0 a.hs a.s0 a.zt a.zs a.ot a.os a.rt a.rs a.lt a.ls;obtain⟨ls,N,v1,v2,es,v3,v4⟩:=O8 s.tofG (l:=9223372036854775807) (by omega) so ho C M b x (lp:=.Xl sp) ⟨_,.Xl,Z⟩ R T V;have S:0<es.length:=by rw[v4.length];exact List.length_pos_iff.2 U
  obtain⟨a1,a2,a3,a4,pp,N,rfl,q,hk,D,F⟩:=c;obtain⟨b1,b2,b3,b4,I,L,rfl,q2,A,k,m⟩:=f;exact(v.Xk.and (Y.Xk.and v1.Xk)).mono fun E K ⟨e1,e2,Q⟩=>.bad G H g.1 m2.1 w e1 t e2 Q v3 S
theorem qa {B}(g:mL B){k L}{o}(p:SA k o)(m:Vq o)(c:o.length<1000000)(w:Xv B 50 [.one k] (.one (.bool true))){d}{a}(x:Sl L (Xf d))(j:VV d a)(u:∀f∈a,S3 f/\f.length<60000)(v:a.length<400000)
  (i:(Vl o a 0).length<1000000) {r} (h:ry o (Vl o a 0) (RU (Vl o a 0).length (Vl o a 0).length) r):Xv B 53 [.one L,.one k] (.one (.bool r)):=by
 obtain⟨q,s,t,e,l⟩:=Oy g.tofG p m c x j u v;have b:=l.length;have n:=FF g p m c e l i h;rw[<-b]at n;exact B9 g e (by omega) w t n
