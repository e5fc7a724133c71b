/- Division: IsBasis of the program, its rounds (written by gen_qbas.py). -/
import Derived.Test.YtidginchkjhobaaGreatQDvd
import Derived.OwnWalkIn
import Derived.BigFrameIn
import Derived.TacticsInMore
import Derived.LoopIn
set_option maxHeartbeats 16000000
set_option maxRecDepth 100000
namespace Go.Proofs.YtidginchkjhobaaGreat
open Go.Ev Go.Num
def pj:XH:=.VM [4,5,27,28] (sQ (rG [mV 6 27]) (rG [mV 7 28]))
def Au:XH:=.block 1 (sQ (.RP [oP 29 (.fieldAddr 1) [.t 5],oA 30 (.load false 1) [.t 29] [0],mV 31 6,oA 32 (.P1 15) [.t 30,.t 31] [1,2,0],oA 33 (.load true 15) [.t 32] [3,1,2,0],oP 34 (.fieldAddr 1) [.t 5],oA 35 (.load false 1) [.t 34] [5],mV 36 7,oA 37 (.P1 15) [.t 35,.t 36] [6,7,5],oA 38 (.load true 15) [.t 37] [8,6,7,5],oP 8 (.alloc 140 [.bool false,.Xq,.bool false,.Xq,cI 0,cI 0,cI 0,cI 0,cI 0,cI 0,cI 0,cI 0,.Xq,.Xq,cI 0]) [],oP 9 (.alloc 140 [.bool false,.Xq,.bool false,.Xq,cI 0,cI 0,cI 0,cI 0,cI 0,cI 0,cI 0,cI 0,.Xq,.Xq,cI 0]) [],oN (.store 15) [.t 8,.t 33] [4,10,11,3,1,2,0]] [oN (.store 15) [.t 9,.t 38] [9,12,8,6,7,5,4,10,11,3,1,2,0]]) (.VM [4,5,8,9] (sQ (sQ (rG [oP 39 (.fieldAddr 0) [.t 8],oP 40 (.fieldAddr 4) [.t 39],oP 41 (.load true 8) [.t 40],oP 42 (.fieldAddr 0) [.t 9],oP 43 (.fieldAddr 4) [.t 42],oP 44 (.load true 8) [.t 43],oP 45 (.call 97) [.t 41,.t 44],oP 46 (.build [cI 0,cI 0,cI 0,cI 0,cI 0,cI 0,cI 0,cI 0] []) [],oP 47 (.aO false .i64 8) [.t 45,.t 46]]) (.VM [4,5,8,9,47] (.cond (.t 47) (.exit 1) .skip))) (.VM [4,5,8,9] (sQ (rG [oP 49 (.load true 15) [.t 8],oP 50 (.load true 15) [.t 9],oP 51 (.call 98) [.t 49,.t 50],mV 48 51,oP 52 (.extract 0) [.t 48],oP 53 (.extract 1) [.t 48],mV 10 52,mV 11 53]) (.VM [4,5,10,11] (sQ (sQ (rG [mV 54 11,oP 55 (.bin .neq) [.t 54,cC 0]]) (.cond (.t 55) (sQ (rG [oN (.store 1) [.t 4,cF] []]) .ret) .skip)) (sQ (rG [oP 57 (.load true 4) [.t 5],mV 58 10,oP 59 (.call 99) [.t 57,.t 58],mV 56 59,oP 60 (.extract 0) [.t 56],oP 61 (.extract 1) [.t 56],oP 62 (.extract 2) [.t 56],mV 12 60,mV 13 61,mV 14 62]) (.VM [4,5,13] (sQ (rG [mV 63 13,oP 64 .len [.t 63],oP 65 (.bin .gtr) [.t 64,cC 0]]) (.cond (.t 65) (sQ (rG [oN (.store 1) [.t 4,cF] []]) .ret) .skip)))))))))))
abbrev kR (E:Xa)(K:Nat):St->Option (Ex×St):=Sn (fun s=>XI E K 0 pj s) (fun s=>XI E K 0 Au s)
abbrev Ez (b:Bool):Xx:=⟨false,0,1,[[.p (.bool b)]],false,4⟩
abbrev E3 (lo by_:PL):Xx:=RB lo by_ 9223372036854775807 (.bool true)
theorem H8 {a b:Type}{f:a->b->Prop}{x:a}{y:b}(h:f x y):∃x y,f x y:=⟨x,y,h⟩
theorem Du {E:Xa}{K i j:Nat}(s:E.mode=md){P d:PL}{f:I'}(o:Sl d f){a b c e p q a2 b2 c2 e2 p2 q2:PL}{m m2 g:P'}{ix u:Nat}(hi:f[i]? =some (SL a b c e m p q ix))(hj:f[j]? =some (SL a2 b2 c2 e2 m2 p2 q2 u))(B:m.length=8)(l:m2.length=8)(hg:g.length=8)
  (z:E.pure 97 [.agg (mo m),.agg (mo m2)]=some (.agg (mo g))) (t:g=Tz) {T:List (Nat×DV)} (t4:Xh T 4=some (.one (.ptr 0 0 0 0))) (t5:Xh T 5=some (.one (.ptr 1 0 0 0))) (w:Bool) (G:V'):
  ∃T' Z,kR E K ⟨(28,LB j)::(27,LB i)::T,Ez w::E3 P d::G⟩=some (.normal,⟨T',Ez w::E3 P d::Z⟩):=by
 have C:=fun(r:HF) (v:IntKind)=>o.idx (h:=r) (k:=v) (sz:=15) hi (by simp[SL,XF,B])
 have D:=fun(r:HF) (v:IntKind)=>o.idx (h:=r) (k:=v) (sz:=15) hj (by simp[SL,XF,l])
 have A:=UT hg (n:=Tz) rfl;have tg:(Xw g).take 8=Xw g:=Zd (by rw[Xc];omega);obtain⟨F,H,I,J,L,M,N,O,rfl⟩:=eight B;obtain⟨Q,R,S,U,V,W,X,Y,rfl⟩:=eight l;have x:mo [F,H,I,J,L,M,N,O]=[LA F,LA H,LA I,LA J,LA L,LA M,LA N,LA O]:=rfl;have y:mo [Q,R,S,U,V,W,X,Y]=[LA Q,LA R,LA S,LA U,LA V,LA W,LA X,LA Y]:=rfl;have z8:Xw Tz=[.p (LA 0),.p (LA 0),.p (LA 0),.p (LA 0),.p (LA 0),.p (LA 0),.p (LA 0),.p (LA 0)]:=rfl;rw[z8]at A;simp only[SL,x,y,ZU,ZF]at C D;rw[x,y]at z;have t:=decide_eq_true t;apply H8;simp(decide:=true)only[kR,Sn,pj,Au,Xo,Xr,VR,Vx,reduceIte,Nat.reduceEqDiff,Nat.reduceLeDiff,Nat.reduceAdd,s,X4,t4,t5,C,D,z,A,t,Wj,UC,TQ,WK,W8,Zq,Zm,Zw,BEq.rfl];rfl
theorem Il {E:Xa}{K i j:Nat}(x:E.mode=md){A d:PL}{f:I'}(t:Sl d f){a b c e p q B C F e2 p2 q2:PL}{m m2 g:P'}{N s:Nat}(hi:f[i]? =some (SL a b c e m p q N))(hj:f[j]? =some (SL B C F e2 m2 p2 q2 s))(L:m.length=8)(o:m2.length=8)(hg:g.length=8)
  (H:E.pure 97 [.agg (mo m),.agg (mo m2)]=some (.agg (mo g))) (y:g≠Tz) {sp qq r:PL} (I:E.pure 98 [.agg (SL a b c e m p q N),.agg (SL B C F e2 m2 p2 q2 s)]=some (.X9 [.one sp,.one (LA 0)])) (h3:E.pure 99 [.agg [A,d,LA 9223372036854775807,.bool true],.one sp]=some (.X9 [.one qq,.one r,.one (.bool true)])) (sr:Sl r []) {T:List (Nat×DV)} (t4:Xh T 4=some (.one (.ptr 0 0 0 0))) (t5:Xh T 5=some (.one (.ptr 1 0 0 0))) (D:Bool) (G:V'):
  ∃T' G',kR E K ⟨(28,LB j)::(27,LB i)::T,Ez D::E3 A d::G⟩=some (.normal,⟨T',Ez D::E3 A d::G'⟩):=by
 have M:=fun(w:HF) (z:IntKind)=>t.idx (h:=w) (k:=z) (sz:=15) hi (by simp[SL,XF,L])
 have O:=fun(w:HF) (z:IntKind)=>t.idx (h:=w) (k:=z) (sz:=15) hj (by simp[SL,XF,o])
 have J:=UT hg (n:=Tz) rfl;have tg:(Xw g).take 8=Xw g:=Zd (by rw[Xc];omega);obtain⟨P,Q,R,S,U,V,W,X,rfl⟩:=eight L;obtain⟨Y,Z,n3,n4,n5,n6,n7,n8,rfl⟩:=eight o;have u:mo [P,Q,R,S,U,V,W,X]=[LA P,LA Q,LA R,LA S,LA U,LA V,LA W,LA X]:=rfl;have v:mo [Y,Z,n3,n4,n5,n6,n7,n8]=[LA Y,LA Z,LA n3,LA n4,LA n5,LA n6,LA n7,LA n8]:=rfl;have z8:Xw Tz=[.p (LA 0),.p (LA 0),.p (LA 0),.p (LA 0),.p (LA 0),.p (LA 0),.p (LA 0),.p (LA 0)]:=rfl;rw[z8]at J;simp only[SL,u,v,ZU,ZF]at M O;rw[u,v]at H;have y:=decide_eq_false y;simp only[SL,u,v,ZU,ZF]at I;have l:=sr.len;apply H8;simp(decide:=true)only[kR,Sn,pj,Au,Xo,Xr,VR,Vx,reduceIte,Nat.reduceEqDiff,Nat.reduceLeDiff,Nat.reduceAdd,x,X4,t4,t5,M,O,H,J,y,Wj,UC,TQ,WK,W8,Zq,Zm,Zw,I,h3,l];rfl
theorem FU {E:Xa}{K i j:Nat}(y:E.mode=md){B d:PL}{f:I'}(t:Sl d f){a b c e p q C D F e2 p2 q2:PL}{m m2 g:P'}{O s:Nat}(hi:f[i]? =some (SL a b c e m p q O))(hj:f[j]? =some (SL C D F e2 m2 p2 q2 s))(M:m.length=8)(o:m2.length=8)(hg:g.length=8)
  (I:E.pure 97 [.agg (mo m),.agg (mo m2)]=some (.agg (mo g))) (z:g≠Tz) {sp qq r:PL} {H:I'} (J:E.pure 98 [.agg (SL a b c e m p q O),.agg (SL C D F e2 m2 p2 q2 s)]=some (.X9 [.one sp,.one (LA 0)])) (h3:E.pure 99 [.agg [B,d,LA 9223372036854775807,.bool true],.one sp]=some (.X9 [.one qq,.one r,.one (.bool true)])) (sr:Sl r H) (w:0<H.length) {T:List (Nat×DV)} (t4:Xh T 4=some (.one (.ptr 0 0 0 0))) (t5:Xh T 5=some (.one (.ptr 1 0 0 0))) (bb:Bool) (G:V'):
  ∃T' G',kR E K ⟨(28,LB j)::(27,LB i)::T,Ez bb::E3 B d::G⟩=some (.ret,⟨T',Ez false::E3 B d::G'⟩):=by
 have N:=fun(x:HF) (A:IntKind)=>t.idx (h:=x) (k:=A) (sz:=15) hi (by simp[SL,XF,M])
 have P:=fun(x:HF) (A:IntKind)=>t.idx (h:=x) (k:=A) (sz:=15) hj (by simp[SL,XF,o])
 have L:=UT hg (n:=Tz) rfl;have tg:(Xw g).take 8=Xw g:=Zd (by rw[Xc];omega);obtain⟨Q,R,S,U,V,W,X,Y,rfl⟩:=eight M;obtain⟨Z,n2,n3,n4,n5,n6,n7,n8,rfl⟩:=eight o;have u:mo [Q,R,S,U,V,W,X,Y]=[LA Q,LA R,LA S,LA U,LA V,LA W,LA X,LA Y]:=rfl;have v:mo [Z,n2,n3,n4,n5,n6,n7,n8]=[LA Z,LA n2,LA n3,LA n4,LA n5,LA n6,LA n7,LA n8]:=rfl;have z8:Xw Tz=[.p (LA 0),.p (LA 0),.p (LA 0),.p (LA 0),.p (LA 0),.p (LA 0),.p (LA 0),.p (LA 0)]:=rfl;rw[z8]at L;simp only[SL,u,v,ZU,ZF]at N P;rw[u,v]at I;have z:=decide_eq_false z;simp only[SL,u,v,ZU,ZF]at J;have l:=sr.len;apply H8;simp(decide:=true)only[kR,Sn,pj,Au,Xo,Xr,VR,Vx,reduceIte,Nat.reduceEqDiff,Nat.reduceLeDiff,Nat.reduceAdd,y,X4,t4,t5,N,P,I,L,z,Wj,UC,TQ,WK,W8,Zq,Zm,Zw,J,h3,l,w];rfl
open Go.RowKit Go.Ev
attribute [local go_sem] Oper.semAt_some
def n9 (n i:Nat):List (Nat×Nat):=(List.range (n-(i+1))).map fun k=>(i,i+1+k)
def RE (n i:Nat):List (Nat×Nat):=(List.range i).flatMap (n9 n)
theorem lX (n i:Nat):RE n (i+1)=RE n i++n9 n i:=by simp[RE,List.range_succ]
theorem BU (n i k:Nat)(c:i<n)(f:i+1+k<n):(RE n n)[(RE n i).length+k]? =some (i,i+1+k):=by
 have split:∀m,i<m->∃r,RE n m=RE n i++n9 n i++r:=by
  intro m;induction m with
  |zero=>intro h;omega
  |succ m d=>
   intro h;rw[lX];by_cases e:i=m
   ·subst e;exact⟨[],by simp⟩
   ·obtain⟨r,a⟩:=d (by omega);exact⟨r++n9 n m,by rw[a];simp⟩
 obtain⟨r,a⟩:=split n c;rw[a,Zq,ZJ (by omega)];rw[show(RE n i).length+k-(RE n i).length=k by omega];have b:(n9 n i).length=n-(i+1):=by simp[n9]
 rw[ZA (by omega)];simp only[n9,ZD,List.getElem?_range (show k<n-(i+1)by omega),Z6]
theorem kI (n i:Nat):(RE n (i+1)).length=(RE n i).length+(n-(i+1)):=by rw[lX];simp[n9]
def DS (n:Nat):List (List PV):=(RE n n).map fun p=>[.one (.int .i64 p.1),.one (.int .i64 p.2)]
theorem ES (n i j:Nat)(a:i<j)(b:j<n):(DS n)[(RE n i).length+(j-(i+1))]? =some [.one (.int .i64 i),.one (.int .i64 j)]:=by
 simp only[DS,ZD];rw[BU n i (j-(i+1)) (by omega) (by omega),show i+1+(j-(i+1))=j by omega];rfl
theorem HJ {w:World}{L:BS}{v:Value}{k:IntKind}{z:Int}(h:Ws w L v (.int k z)):v=.int k z:=by
 generalize a:PL.int k z=l at h;cases h<;>cases a;rfl
theorem BG {w:World}{L:BS}{b a:Nat}{k:IntKind}{z:Int}(h:Ws w L (.pointer (some ⟨b,a,none⟩)) (.ref [.int k z])):w.cell? ⟨b,a,none⟩=some (.int k z):=by
 generalize f:PL.ref [PL.int k z]=l at h;generalize i:Value.pointer (some ⟨b,a,none⟩)=v at h;cases h<;>cases f;rename_i d j e g;cases i;have c:=e 0 _ rfl;rw[HJ (g 0 _ rfl)]at c;simpa using c
theorem uL (n:Nat)(S:n<1000000):vP Tryz.prog 141 [.ref [.int .i64 n]] (DS n):=by
 intro l D J C a F W h0;have t:∃v,D=[v]:=by
  obtain⟨L,m⟩:=a 0 W h0;cases m with
  |cons _ h=>cases h;exact⟨_,rfl⟩
 obtain⟨v,rfl⟩:=t;obtain⟨b,f,rfl⟩:∃b f,v=.pointer (some ⟨b,f,none⟩):=by
  obtain⟨L,m⟩:=a 0 W h0;cases m with
  |cons h _=>cases h;exact⟨_,_,rfl⟩
 have c:∀i W,J i W->W.cell? ⟨b,f,none⟩=some (.int .i64 n):=by
  intro i W q;obtain⟨L,m⟩:=a i W q;cases m with
  |cons h _=>exact BG h
 have s:∀i j W,i<j->j<n->J ((RE n i).length+(j-(i+1))) W->YieldAt Fence.wide 0 Tryz.prog l #[.int .i64 (i:Int),.int .i64 (j:Int)] W fun e A=>(e=.returned (.bool true)/\J ((RE n i).length+(j-(i+1))+1) A)\/(e=.returned (.bool false)/\C A):=by
  intro i j W u I q;exact F _ W _ [.int .i64 (i:Int),.int .i64 (j:Int)] q (ES n i j u I) (.cons (fun L O h=>XE.p _ _ (.int _ _)) (.cons (fun L O h=>XE.p _ _ (.int _ _)) .nil))
 refine callsIn_of_wp Tryz.func141 rfl trivial ?_ rfl;simp only[Tryz.ntmps141,List.size_toArray,Zi,Zr,Nat.reduceAdd,Nat.reduceSub,Array.replicate_succ,Array.replicate_zero,List.push_toArray,List.append_toArray,ZF,ZU];have G:=c 0 W h0
 gi_wp2
 gi_loopw [6] (fun x N=>∃i:Nat,i<=n/\x=.int .i64 (i:Int)/\J (RE n i).length N)
  (fun x _=>n-(intOf x).toNat)
 case atStart=>exact⟨0,Zw _,rfl,by simpa[RE]using h0⟩
 case round=>
  obtain⟨i,R,rfl,g⟩:=hrel;by_cases y:i<n
  ·have B:(i:Int)<(n:Int):=by omega
   gi_wp2
   gi_loopw [4] (fun x z=>∃j:Nat,i+1<=j/\j<=n/\x=.int .i64 (j:Int)/\J ((RE n i).length+(j-(i+1))) z)
    (fun x _=>n-(intOf x).toNat)
   case atStart=>exact⟨i+1,Ze _,y,by simp,by simpa using g⟩
   case round=>
    obtain⟨j,K,M,rfl,d⟩:=hrel;have H:=c _ _ d;by_cases o:j<n
    ·have w:(j:Int)<(n:Int):=by omega
     obtain⟨Q,tmps,assign,body,T,E⟩:=s i j _ (by omega) o d
     gi_wp2
     refine⟨rfl,E.mono ?_⟩;rintro e P (⟨rfl,r⟩|⟨rfl,k⟩)
     ·gi_wp2
      go_roundw
      case rel=>exact⟨j+1,by omega,by omega,by simp,by rw[show(RE n i).length+(j+1-(i+1))=(RE n i).length+(j-(i+1))+1 by omega];exact r⟩
      case measure=>simp[intOf];omega
     ·gi_wp2
      refine bodyPost_ret (results_none rfl _ _ _) rfl ?_;exact⟨⟨_,rfl⟩,.inr k⟩
    ·obtain rfl:j=n:=by omega
     gi_wp2
     refine⟨⟨i+1,by omega,by simp,?_⟩,by simp[intOf];omega⟩;rw[kI];exact d
  ·obtain rfl:i=n:=by omega
   gi_wp2
   go_end0
   refine⟨⟨_,rfl⟩,.inl ?_⟩;have :(DS i).length=(RE i i).length:=by simp[DS]
   rw[this];exact g
structure pv (B:Xs):Prop extends eo B where
 it:∀n,n<1000000->B.E0.iter 141 [.ref [LA n]]=some (DS n)
theorem Xs.iter (B:Xs)(K n:Nat):(B.E K n).iter=B.E0.iter:=by
 induction n with
 |zero=>rfl
 |succ n a=>exact a
theorem pv.KU {B:Xs}(a:pv B):XS B fun E _=>∀n,n<1000000->E.iter 141 [.ref [LA n]]=some (DS n):=
 XS.of fun K n m b=>by rw[Xs.iter];exact a.it m b
theorem uF {B:Xs}(b:Std B)(n:Nat):Xu B 96 [.one (LA n)] (.one (.fn 141 [.ref [LA n]])):=by
 have a:U8 141 [.one (.ptr 0 0 0 0)]=some ⟨.one (.fn 141 [.ptr 0 0 0 0]),[],[],[]⟩:=rfl;refine Xu.of (b.Wa _ _ rfl) (b.Xk.mono fun E K c=> ?_);simp(decide:=true)only[Xo,Xr,reduceIte,x96,a];rfl
inductive pJ (E:Xa)(lo by_:PL)(dcs:I'):List (Nat×Nat)->Bool->Prop
 |nil:pJ E lo by_ dcs [] true
 |skip {i j:Nat} {ps:List (Nat×Nat)} {r:Bool} {a b c e p q a2 b2 c2 e2 p2 q2:PL} {m m2 g:P'} {ix ix2:Nat} (hi:dcs[i]? =some (SL a b c e m p q ix)) (hj:dcs[j]? =some (SL a2 b2 c2 e2 m2 p2 q2 ix2)) (hm:m.length=8) (hm2:m2.length=8) (hg:g.length=8)
   (h1:E.pure 97 [.agg (mo m),.agg (mo m2)]=some (.agg (mo g))) (hz:g=Tz) (h:pJ E lo by_ dcs ps r):pJ E lo by_ dcs ((i,j)::ps) r
 |ok {i j:Nat} {ps:List (Nat×Nat)} {r:Bool} {a b c e p q a2 b2 c2 e2 p2 q2:PL} {m m2 g:P'} {ix ix2:Nat} (hi:dcs[i]? =some (SL a b c e m p q ix)) (hj:dcs[j]? =some (SL a2 b2 c2 e2 m2 p2 q2 ix2)) (hm:m.length=8) (hm2:m2.length=8) (hg:g.length=8)
   (h1:E.pure 97 [.agg (mo m),.agg (mo m2)]=some (.agg (mo g))) (hz:g≠Tz) {sp qq rr:PL} (h2:E.pure 98 [.agg (SL a b c e m p q ix),.agg (SL a2 b2 c2 e2 m2 p2 q2 ix2)]=some (.X9 [.one sp,.one (LA 0)]))
   (h3:E.pure 99 [.agg [lo,by_,LA 9223372036854775807,.bool true],.one sp]=some (.X9 [.one qq,.one rr,.one (.bool true)])) (sr:Sl rr []) (h:pJ E lo by_ dcs ps r):pJ E lo by_ dcs ((i,j)::ps) r
 |bad {i j:Nat} {ps:List (Nat×Nat)} {a b c e p q a2 b2 c2 e2 p2 q2:PL} {m m2 g:P'} {ix ix2:Nat} (hi:dcs[i]? =some (SL a b c e m p q ix)) (hj:dcs[j]? =some (SL a2 b2 c2 e2 m2 p2 q2 ix2)) (hm:m.length=8) (hm2:m2.length=8) (hg:g.length=8)
   (h1:E.pure 97 [.agg (mo m),.agg (mo m2)]=some (.agg (mo g))) (hz:g≠Tz) {sp qq rr:PL} {es:I'} (h2:E.pure 98 [.agg (SL a b c e m p q ix),.agg (SL a2 b2 c2 e2 m2 p2 q2 ix2)]=some (.X9 [.one sp,.one (LA 0)]))
   (h3:E.pure 99 [.agg [lo,by_,LA 9223372036854775807,.bool true],.one sp]=some (.X9 [.one qq,.one rr,.one (.bool true)])) (sr:Sl rr es) (hes:0<es.length):pJ E lo by_ dcs ((i,j)::ps) false
abbrev KM (ps:List (Nat×Nat)):List (List PV):=ps.map fun p=>[.one (.int .i64 p.1),.one (.int .i64 p.2)]
abbrev KS (b:Bool):Ex:=match b with |true=>.normal|false=>.ret
theorem Im {E:Xa}{K:Nat}(c:E.mode=md){A b:PL}{k:I'}(d:Sl b k){T:List (Nat×DV)}(C:Xh T 4=some (.one (.ptr 0 0 0 0)))(D:Xh T 5=some (.one (.ptr 1 0 0 0))){e:List (Nat×Nat)}{r:Bool}(h:pJ E A b k e r):
  ∀(G:V'),∃f,Tp T (kR E K) [27,28] (KM e) (Ez false::E3 A b::G)=some (KS r,⟨T,Ez false::E3 A b::f⟩):=by
 have step:∀(i j:Nat) (e:List (Nat×Nat)) (H:V'),Tp T (kR E K) [27,28] (KM ((i,j)::e)) H=(match kR E K ⟨(28,LB j)::(27,LB i)::T,H⟩with
   |some (.normal,s)=>Tp T (kR E K) [27,28] (KM e) s.H
   |some (.exit id,s)=>some (.exit id,⟨T,s.H⟩)
   |some (.ret,s)=>some (.ret,⟨T,s.H⟩)
   |none=>none):=fun i j e H=>rfl
 induction h with
 |nil=>intro G;exact⟨G,rfl⟩
 |skip o q t a n m u h z=>
  intro G;obtain⟨F,g,l⟩:=Du (K:=K) c d o q t a n m u C D false G;obtain⟨f,v⟩:=z g;exact⟨f,by rw[step,l];exact v⟩
 |ok o q t a n m u w x B h z=>
  intro G;obtain⟨F,g,l⟩:=Il (K:=K) c d o q t a n m u w x B C D false G;obtain⟨f,v⟩:=z g;exact⟨f,by rw[step,l];exact v⟩
 |bad o q t a n m u w x B y=>
  intro G;obtain⟨F,g,l⟩:=FU (K:=K) c d o q t a n m u w x B y C D false G;exact⟨g,by rw[step,l]⟩
theorem FC {E:Xa}{K:Nat}{f:Vs}{vars:P'}{pre body:XH}{s:St}{c:Nat}{a:N'}{b:List (List PV)}(e:f.eval s.T=some (.one (.p (.fn c a))))(g:E.iter c a=some b)(d:(pre.flat&&body.flat&&Nat.blt c aM)=true):
  XI E K 0 (.Og f vars pre body) s=Tp s.T (Sn (fun s=>XI E K 0 pre s) (fun s=>XI E K 0 body s)) vars b s.H:=by
 simp only[XI,e,g,d,cond_true]
theorem As {B:Xs}(h:pv B){e L b:PL}{a:I'}(g:Sl b a)(j:a.length<1000000)(v:Xu B 50 [.one e] (.one (.bool true)))(o:Xu B 95 [.one L,.one e] (.one b)){r:Bool}(u:XS B fun E _=>pJ E e b a (RE a.length a.length) r):
  Xu B 53 [.one L,.one e] (.one (.bool r)):=by
 have q:=uF h.toStd a.length;refine Xu.of (h.Wa _ _ rfl) ((u.and (o.Xk.and (v.Xk.and (q.Xk.and (h.KU.and h.toStd.Xk))))).mono fun E K ⟨l,e1,ev,k,m,d⟩=> ?_);have c:=g.len;obtain⟨w,n⟩:=Im (K:=K) (T:=[(26,.one (.p (.fn 141 [.ref [LA a.length]]))),(25,LB a.length),(24,.one (.p b)),(23,.one (.ptr 1 0 0 1)),(4,.one (.ptr 0 0 0 0)),(5,.one (.ptr 1 0 0 0))]) d g rfl rfl l [];have i:=(FC (E:=E) (K:=K) (f:=.t 26) (vars:=[27,28]) (pre:=pj) (body:=Au) (s:=⟨[(26,.one (.p (.fn 141 [.ref [LA a.length]]))),(25,LB a.length),(24,.one (.p b)),(23,.one (.ptr 1 0 0 1)),(4,.one (.ptr 0 0 0 0)),(5,.one (.ptr 1 0 0 0))],Ez false::E3 e b::[]⟩) rfl (m _ j) (by rfl)).trans n;simp only[pj,Au]at i;cases r with
 |true=>simp(decide:=true)only[Xo,Xr,Vx,reduceIte,Nat.reduceAdd,x53,d,X4,ev,e1,k,c,i,KS]
 |false=>simp(decide:=true)only[Xo,Xr,Vx,reduceIte,Nat.reduceAdd,x53,d,X4,ev,e1,k,c,i,KS]
structure DA (d e:Dv):Prop where
 ht:Sq d.1.1
 t0:d.1.1≠0
 hs:Sq e.1.1
 s0:e.1.1≠0
 zt:Sz d.2.1
 zs:Sz e.2.1
 ot:∀u∈d.2.1,XD (Xg (XQ (XJ d.1.2 e.1.2) d.1.2) u.2)
 os:∀u∈e.2.1,XD (Xg (XQ (XJ d.1.2 e.1.2) e.1.2) u.2)
 rt:Sz (TN (XJ d.1.2 e.1.2) d.1 d.2.1)
 rs:Sz (TN (XJ d.1.2 e.1.2) e.1 e.2.1)
 lt:d.2.1.length<400000
 ls:e.2.1.length<400000
abbrev kx (d e:Dv):Z':=gM d.1 d.2.1 e.1 e.2.1
inductive pK (o:M')(ds:List Dv):List (Nat×Nat)->Bool->Prop
 |nil:pK o ds [] true
 |skip {i j:Nat} {d e:Dv} {ps:List (Nat×Nat)} {r:Bool} (hi:ds[i]? =some d) (hj:ds[j]? =some e) (hg:QW d.1.2 e.1.2=Tz) (h:pK o ds ps r):pK o ds ((i,j)::ps) r
 |ok {i j n:Nat} {d e:Dv} {ps:List (Nat×Nat)} {r:Bool} {qs':S'} (hi:ds[i]? =some d) (hj:ds[j]? =some e) (hg:QW d.1.2 e.1.2≠Tz) (hs:DA d e) (hd:SI (kx d e)) (hl:(kx d e).length<60000)
   (hr:cG o Sq QO XD ds true n (Vz o (kx d e)) (List.replicate ds.length []) [] qs' []) (h:pK o ds ps r):pK o ds ((i,j)::ps) r
 |bad {i j n:Nat} {d e:Dv} {ps:List (Nat×Nat)} {qs':S'} {r':Z'} (hi:ds[i]? =some d) (hj:ds[j]? =some e) (hg:QW d.1.2 e.1.2≠Tz) (hs:DA d e) (hd:SI (kx d e)) (hl:(kx d e).length<60000)
   (hr:cG o Sq QO XD ds true n (Vz o (kx d e)) (List.replicate ds.length []) [] qs' r') (hne:r'≠[]):pK o ds ((i,j)::ps) false
theorem Dw {B:Xs}(s:pv B){lo u:PL}{o:M'}(so:TR lo o)(ho:Vt o)(C:o.length<1000000){p:I'}{O:List Dv}(M:Sl u p)(b:ko p O)(x:O.length<1000000){J:List (Nat×Nat)}{r:Bool}(h:pK o O J r):XS B fun E _=>pJ E lo u p J r:=by
 induction h with
 |nil=>exact XS.of fun _ _=>.nil
 |@skip i j d e J r y z t h W=>
  obtain⟨dc,G,c⟩:=b.get i d y;obtain⟨ec,H,f⟩:=b.get j e z;have g:=c.tS;have m2:=f.tS;have v:=dA s.toStd g m2;have w:(QW d.1.2 e.1.2).length=8:=by rw[t];rfl
  obtain⟨a1,a2,a3,a4,pp,N,rfl,q,hk,D,F⟩:=c;obtain⟨b1,b2,b3,b4,I,L,rfl,q2,A,k,m⟩:=f;exact(W.and v.Xk).mono fun E K ⟨P,e1⟩=>.skip G H g.1 m2.1 w e1 t P
 |@ok i j n d e J r X y z t a R T V h W=>
  obtain⟨dc,G,c⟩:=b.get i d y;obtain⟨ec,H,f⟩:=b.get j e z;have g:=c.tS;have m2:=f.tS;have v:=dA s.toStd g m2;have w:(QW d.1.2 e.1.2).length=8:=by simp[QW,g.1,m2.1]
  obtain⟨sp,Y,Z⟩:=OF s.toStd c f a.ht a.t0 a.hs a.s0 a.zt a.zs a.ot a.os a.rt a.rs a.lt a.ls;obtain⟨ls,N,v1,v2,es,v3,v4⟩:=OG s.toeo (l:=9223372036854775807) (by omega) so ho C M b x (lp:=.Xn sp) ⟨_,.Xn,Z⟩ R T V;cases v4;obtain⟨a1,a2,a3,a4,pp,N,rfl,q,hk,D,F⟩:=c;obtain⟨b1,b2,b3,b4,I,L,rfl,q2,A,k,m⟩:=f;exact(W.and (v.Xk.and (Y.Xk.and v1.Xk))).mono fun E K ⟨P,e1,e2,Q⟩=>.ok G H g.1 m2.1 w e1 t e2 Q v3 P
 |@bad i j n d e J X r' y z t a R T V U=>
  obtain⟨dc,G,c⟩:=b.get i d y;obtain⟨ec,H,f⟩:=b.get j e z;have g:=c.tS;have m2:=f.tS;have v:=dA s.toStd g m2;have w:(QW d.1.2 e.1.2).length=8:=by simp[QW,g.1,m2.1]
  obtain⟨sp,Y,Z⟩:=OF s.toStd c f a.ht a.t0 a.hs a.s0 a.zt a.zs a.ot a.os a.rt a.rs a.lt a.ls;obtain⟨ls,N,v1,v2,es,v3,v4⟩:=OG s.toeo (l:=9223372036854775807) (by omega) so ho C M b x (lp:=.Xn sp) ⟨_,.Xn,Z⟩ R T V;have S:0<es.length:=by rw[v4.length];exact List.length_pos_iff.2 U
  obtain⟨a1,a2,a3,a4,pp,N,rfl,q,hk,D,F⟩:=c;obtain⟨b1,b2,b3,b4,I,L,rfl,q2,A,k,m⟩:=f;exact(v.Xk.and (Y.Xk.and v1.Xk)).mono fun E K ⟨e1,e2,Q⟩=>.bad G H g.1 m2.1 w e1 t e2 Q v3 S
theorem og {B:Xs}(g:pv B){k L:PL}{o:M'}(p:TR k o)(m:Vt o)(c:o.length<1000000)(w:Xu B 50 [.one k] (.one (.bool true))){d:N'}{a:S'}(x:Sl L (Xf d))(j:VS d a)(u:∀f∈a,SI f/\f.length<60000)(v:a.length<400000)
  (i:(Vb o a 0).length<1000000) {r:Bool} (h:pK o (Vb o a 0) (RE (Vb o a 0).length (Vb o a 0).length) r):Xu B 53 [.one L,.one k] (.one (.bool r)):=by
 obtain⟨q,s,t,e,l⟩:=P4 g.toeo p m c x j u v;have b:=l.length;have n:=Dw g p m c e l i h;rw[<-b]at n;exact As g e (by omega) w t n
end Go.Proofs.YtidginchkjhobaaGreat
