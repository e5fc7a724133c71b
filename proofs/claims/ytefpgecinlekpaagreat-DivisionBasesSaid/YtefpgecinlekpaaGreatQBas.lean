/- The pairs of indices below a bound: what the function that yields them does. -/
import Derived.OwnWalkIn
import Derived.BigFrameIn
import Derived.TacticsInMore
import Derived.LoopIn
import Derived.Test.YtefpgecinlekpaaGreatQDvdB
set_option maxHeartbeats 16000000
set_option maxRecDepth 100000
namespace Go.Proofs.YtefpgecinlekpaaGreat
open Go.RowKit Go.Ev
attribute [local go_sem] Oper.semAt_some
def prow (n i:Nat):List (Nat×Nat):=(List.range (n-(i+1))).map fun k=>(i,i+1+k)
def Uq (n i:Nat):List (Nat×Nat):=(List.range i).flatMap (prow n)
theorem ppre_succ (n i:Nat):Uq n (i+1)=Uq n i++prow n i:=by simp[Uq,List.range_succ]
theorem ppre_get (n i k:Nat)(hi:i<n)(hk:i+1+k<n):(Uq n n)[(Uq n i).length+k]? =some (i,i+1+k):=by
 have split:∀m,i<m->∃r,Uq n m=Uq n i++prow n i++r:=by
  intro m
  induction m with
  |zero=>intro h;omega
  |succ m ih=>
   intro h
   rw[ppre_succ]
   by_cases e:i=m
   ·subst e;exact⟨[],by simp⟩
   ·obtain⟨r,hr⟩:=ih (by omega)
    exact⟨r++prow n m,by rw[hr];simp⟩
 obtain⟨r,hr⟩:=split n hi
 rw[hr,Zq,ZB (by omega)]
 rw[show(Uq n i).length+k-(Uq n i).length=k by omega]
 have hlen:(prow n i).length=n-(i+1):=by simp[prow]
 rw[Zy (by omega)]
 simp only[prow,Zv,List.getElem?_range (show k<n-(i+1)by omega),ZS]
theorem ppre_len_succ (n i:Nat):(Uq n (i+1)).length=(Uq n i).length+(n-(i+1)):=by rw[ppre_succ];simp[prow]
def prs (n:Nat):List (List PV):=(Uq n n).map fun p=>[.one (.int .i64 p.1),.one (.int .i64 p.2)]
theorem prs_get (n i j:Nat)(hij:i<j)(hj:j<n):(prs n)[(Uq n i).length+(j-(i+1))]? =some [.one (.int .i64 i),.one (.int .i64 j)]:=by
 simp only[prs,Zv]
 rw[ppre_get n i (j-(i+1)) (by omega) (by omega),show i+1+(j-(i+1))=j by omega]
 rfl
theorem int_of {w:World}{L:BS}{v:Value}{k:IntKind}{z:Int}(h:RepP w L v (.int k z)):v=.int k z:=by
 generalize hl:PL.int k z=l at h
 cases h<;>cases hl
 rfl
theorem ref_cell {w:World}{L:BS}{b off:Nat}{k:IntKind}{z:Int}(h:RepP w L (.pointer (some ⟨b,off,none⟩)) (.ref [.int k z])):w.cell? ⟨b,off,none⟩=some (.int k z):=by
 generalize hl:PL.ref [PL.int k z]=l at h
 generalize hv:Value.pointer (some ⟨b,off,none⟩)=v at h
 cases h<;>cases hl
 rename_i vals ho hc hr
 cases hv
 have h1:=hc 0 _ rfl
 rw[int_of (hr 0 _ rfl)]at h1
 simpa using h1
theorem pairs_iter (n:Nat)(hn:n<1000000):IterOk Tryz.prog 99 [.ref [.int .i64 n]] (prs n):=by
 intro l cv J Jx hcap hY W h0
 have hcv:∃v,cv=[v]:=by
  obtain⟨L,hL⟩:=hcap 0 W h0
  cases hL with
  |cons _ h=>cases h;exact⟨_,rfl⟩
 obtain⟨v,rfl⟩:=hcv
 obtain⟨b,off,rfl⟩:∃b off,v=.pointer (some ⟨b,off,none⟩):=by
  obtain⟨L,hL⟩:=hcap 0 W h0
  cases hL with
  |cons h _=>cases h;exact⟨_,_,rfl⟩
 have hcell:∀i W,J i W->W.cell? ⟨b,off,none⟩=some (.int .i64 n):=by
  intro i W hJ
  obtain⟨L,hL⟩:=hcap i W hJ
  cases hL with
  |cons h _=>exact ref_cell h
 have hYY:∀i j W,i<j->j<n->J ((Uq n i).length+(j-(i+1))) W->YieldAt Fence.wide 0 Tryz.prog l #[.int .i64 (i:Int),.int .i64 (j:Int)] W fun e W'=>(e=.returned (.bool true)/\J ((Uq n i).length+(j-(i+1))+1) W')\/(e=.returned (.bool false)/\Jx W'):=by
  intro i j W hij hj hJ
  exact hY _ W _ [.int .i64 (i:Int),.int .i64 (j:Int)] hJ (prs_get n i j hij hj) (.cons (fun L μ h=>RepD.p _ _ (.int _ _)) (.cons (fun L μ h=>RepD.p _ _ (.int _ _)) .nil))
 refine callsIn_of_wp Tryz.func99 rfl trivial ?_ rfl
 simp only[Tryz.ntmps99,List.size_toArray,Zi,Zw,Nat.reduceAdd,Nat.reduceSub,Array.replicate_succ,Array.replicate_zero,List.push_toArray,List.append_toArray,ZL,ZR]
 have hc0:=hcell 0 W h0
 gi_wp2
 gi_loopw [6] (fun x wr=>∃i:Nat,i<=n/\x=.int .i64 (i:Int)/\J (Uq n i).length wr)
  (fun x _=>n-(intOf x).toNat)
 case atStart=>exact⟨0,Zr _,rfl,by simpa[Uq]using h0⟩
 case round=>
  obtain⟨i,hi,rfl,hJi⟩:=hrel
  by_cases hlt:i<n
  ·have hlt':(i:Int)<(n:Int):=by omega
   gi_wp2
   gi_loopw [4] (fun x wr'=>∃j:Nat,i+1<=j/\j<=n/\x=.int .i64 (j:Int)/\J ((Uq n i).length+(j-(i+1))) wr')
    (fun x _=>n-(intOf x).toNat)
   case atStart=>exact⟨i+1,Zg _,hlt,by simp,by simpa using hJi⟩
   case round=>
    obtain⟨j,hj1,hj2,rfl,hJj⟩:=hrel
    have hcj:=hcell _ _ hJj
    by_cases hjlt:j<n
    ·have hjlt':(j:Int)<(n:Int):=by omega
     obtain⟨fn,tmps,assign,body,hy,hR⟩:=hYY i j _ (by omega) hjlt hJj
     gi_wp2
     refine⟨rfl,hR.mono ?_⟩
     rintro e W3 (⟨rfl,hJ3⟩|⟨rfl,hJx3⟩)
     ·gi_wp2
      go_roundw
      case rel=>exact⟨j+1,by omega,by omega,by simp,by rw[show(Uq n i).length+(j+1-(i+1))=(Uq n i).length+(j-(i+1))+1 by omega];exact hJ3⟩
      case measure=>simp[intOf];omega
     ·gi_wp2
      refine bodyPost_ret (results_none rfl _ _ _) rfl ?_
      exact⟨⟨_,rfl⟩,.inr hJx3⟩
    ·obtain rfl:j=n:=by omega
     gi_wp2
     refine⟨⟨i+1,by omega,by simp,?_⟩,by simp[intOf];omega⟩
     rw[ppre_len_succ];exact hJj
  ·obtain rfl:i=n:=by omega
   gi_wp2
   go_end0
   refine⟨⟨_,rfl⟩,.inl ?_⟩
   have :(prs i).length=(Uq i i).length:=by simp[prs]
   rw[this];exact hJi
open Go.Ev Go.Num
def basP:XCode:=.keep [4,5,27,28] (sQ (rG [mV 6 27]) (rG [mV 7 28]))
def basB:XCode:=.block 1 (sQ (.regionS [oP 29 (.fieldAddr 1) [.t 5],oA 30 (.load false 1) [.t 29] [0],mV 31 6,oA 32 (.indexS 15) [.t 30,.t 31] [1,2,0],oA 33 (.load true 15) [.t 32] [3,1,2,0],oP 34 (.fieldAddr 1) [.t 5],oA 35 (.load false 1) [.t 34] [5],mV 36 7,oA 37 (.indexS 15) [.t 35,.t 36] [6,7,5],oA 38 (.load true 15) [.t 37] [8,6,7,5],oP 8 (.alloc 99 [.bool false,.nilS,.bool false,.nilS,cI 0,cI 0,cI 0,cI 0,cI 0,cI 0,cI 0,cI 0,.nilS,.nilS,cI 0]) [],oP 9 (.alloc 99 [.bool false,.nilS,.bool false,.nilS,cI 0,cI 0,cI 0,cI 0,cI 0,cI 0,cI 0,cI 0,.nilS,.nilS,cI 0]) [],oN (.store 15) [.t 8,.t 33] [4,10,11,3,1,2,0]] [oN (.store 15) [.t 9,.t 38] [9,12,8,6,7,5,4,10,11,3,1,2,0]]) (.keep [4,5,8,9] (sQ (sQ (rG [oP 39 (.fieldAddr 0) [.t 8],oP 40 (.fieldAddr 4) [.t 39],oP 41 (.load true 8) [.t 40],oP 42 (.fieldAddr 0) [.t 9],oP 43 (.fieldAddr 4) [.t 42],oP 44 (.load true 8) [.t 43],oP 45 (.call 65) [.t 41,.t 44],oP 46 (.build [cI 0,cI 0,cI 0,cI 0,cI 0,cI 0,cI 0,cI 0] []) [],oP 47 (.binAgg false .i64 8) [.t 45,.t 46]]) (.keep [4,5,8,9,47] (.cond (.t 47) (.exit 1) .skip))) (.keep [4,5,8,9] (sQ (rG [oP 49 (.load true 15) [.t 8],oP 50 (.load true 15) [.t 9],oP 51 (.call 66) [.t 49,.t 50],mV 48 51,oP 52 (.extract 0) [.t 48],oP 53 (.extract 1) [.t 48],mV 10 52,mV 11 53]) (.keep [4,5,10,11] (sQ (sQ (rG [mV 54 11,oP 55 (.bin .neq) [.t 54,cC 0]]) (.cond (.t 55) (sQ (rG [oN (.store 1) [.t 4,cF] []]) .ret) .skip)) (sQ (rG [oP 57 (.load true 4) [.t 5],mV 58 10,oP 59 (.call 67) [.t 57,.t 58],mV 56 59,oP 60 (.extract 0) [.t 56],oP 61 (.extract 1) [.t 56],oP 62 (.extract 2) [.t 56],mV 12 60,mV 13 61,mV 14 62]) (.keep [4,5,13] (sQ (rG [mV 63 13,oP 64 .len [.t 63],oP 65 (.bin .gtr) [.t 64,cC 0]]) (.cond (.t 65) (sQ (rG [oN (.store 1) [.t 4,cF] []]) .ret) .skip)))))))))))
abbrev basR (E:Oracle)(K:Nat):St->Option (Ex×St):=Uo (fun s=>Xp E K 0 basP s) (fun s=>Xp E K 0 basB s)
abbrev rsB (b:Bool):Blk:=⟨false,0,1,[[.p (.bool b)]],false,4⟩
abbrev mxB (lo by_:PL):Blk:=dnB lo by_ 9223372036854775807 (.bool true)
theorem exg1 {α β:Type}{f:α->β->Prop}{x:α}{y:β}(h:f x y):∃x y,f x y:=⟨x,y,h⟩
theorem bas_skip {E:Oracle}{K i j:Nat}(hmd:E.mode=md){lo by_:PL}{dcs:List (List PL)}(slD:Sl by_ dcs){a b c e p q a2 b2 c2 e2 p2 q2:PL}{m m2 g:List Nat}{ix ix2:Nat}(hi:dcs[i]? =some (dvC a b c e m p q ix))(hj:dcs[j]? =some (dvC a2 b2 c2 e2 m2 p2 q2 ix2))(hm:m.length=8)(hm2:m2.length=8)(hg:g.length=8)
  (h1:E.pure 65 [.agg (mo m),.agg (mo m2)]=some (.agg (mo g))) (hz:g=Tk) {T:List (Nat×DV)} (t4:Xf T 4=some (.one (.ptr 0 0 0 0))) (t5:Xf T 5=some (.one (.ptr 1 0 0 0))) (bb:Bool) (G:List Blk):
  ∃T' G',basR E K ⟨(28,.one (.p (.int .i64 (.ofNat j))))::(27,.one (.p (.int .i64 (.ofNat i))))::T,rsB bb::mxB lo by_::G⟩=some (.normal,⟨T',rsB bb::mxB lo by_::G'⟩):=by
 have ip:=fun(hh:HF) (kd:IntKind)=>slD.idx (h:=hh) (k:=kd) (sz:=15) hi (by simp[dvC,Xt,hm])
 have jp:=fun(hh:HF) (kd:IntKind)=>slD.idx (h:=hh) (k:=kd) (sz:=15) hj (by simp[dvC,Xt,hm2])
 have hb:=Ty hg (n:=Tk) rfl
 have tg:(moD g).take 8=moD g:=Ze (by rw[Xb];omega)
 obtain⟨k1,k2,k3,k4,k5,k6,k7,k8,rfl⟩:=eight hm
 obtain⟨n1,n2,n3,n4,n5,n6,n7,n8,rfl⟩:=eight hm2
 have e8:mo [k1,k2,k3,k4,k5,k6,k7,k8]=[.int .i64 (.ofNat k1),.int .i64 (.ofNat k2),.int .i64 (.ofNat k3),.int .i64 (.ofNat k4),.int .i64 (.ofNat k5),.int .i64 (.ofNat k6),.int .i64 (.ofNat k7),.int .i64 (.ofNat k8)]:=rfl
 have f8:mo [n1,n2,n3,n4,n5,n6,n7,n8]=[.int .i64 (.ofNat n1),.int .i64 (.ofNat n2),.int .i64 (.ofNat n3),.int .i64 (.ofNat n4),.int .i64 (.ofNat n5),.int .i64 (.ofNat n6),.int .i64 (.ofNat n7),.int .i64 (.ofNat n8)]:=rfl
 have z8:moD Tk=[.p (.int .i64 (.ofNat 0)),.p (.int .i64 (.ofNat 0)),.p (.int .i64 (.ofNat 0)),.p (.int .i64 (.ofNat 0)),.p (.int .i64 (.ofNat 0)),.p (.int .i64 (.ofNat 0)),.p (.int .i64 (.ofNat 0)),.p (.int .i64 (.ofNat 0))]:=rfl
 rw[z8]at hb
 simp only[dvC,e8,f8,ZR,ZL]at ip jp
 rw[e8,f8]at h1
 have hz:=decide_eq_true hz
 apply exg1
 simp(decide:=true)only[basR,Uo,basP,basB,EVS,EVN,EVF,EVH,reduceIte,Nat.reduceEqDiff,Nat.reduceLeDiff,Nat.reduceAdd,hmd,MDS,t4,t5,ip,jp,h1,hb,hz,XT,Vn,T7,XK,XS,Zq,Zm,Zr,BEq.rfl]
 rfl
theorem bas_ok {E:Oracle}{K i j:Nat}(hmd:E.mode=md){lo by_:PL}{dcs:List (List PL)}(slD:Sl by_ dcs){a b c e p q a2 b2 c2 e2 p2 q2:PL}{m m2 g:List Nat}{ix ix2:Nat}(hi:dcs[i]? =some (dvC a b c e m p q ix))(hj:dcs[j]? =some (dvC a2 b2 c2 e2 m2 p2 q2 ix2))(hm:m.length=8)(hm2:m2.length=8)(hg:g.length=8)
  (h1:E.pure 65 [.agg (mo m),.agg (mo m2)]=some (.agg (mo g))) (hz:g≠Tk) {sp qq r:PL} (h2:E.pure 66 [.agg (dvC a b c e m p q ix),.agg (dvC a2 b2 c2 e2 m2 p2 q2 ix2)]=some (.tup [.one sp,.one (.int .i64 (.ofNat 0))])) (h3:E.pure 67 [.agg [lo,by_,.int .i64 (.ofNat 9223372036854775807),.bool true],.one sp]=some (.tup [.one qq,.one r,.one (.bool true)])) (sr:Sl r []) {T:List (Nat×DV)} (t4:Xf T 4=some (.one (.ptr 0 0 0 0))) (t5:Xf T 5=some (.one (.ptr 1 0 0 0))) (bb:Bool) (G:List Blk):
  ∃T' G',basR E K ⟨(28,.one (.p (.int .i64 (.ofNat j))))::(27,.one (.p (.int .i64 (.ofNat i))))::T,rsB bb::mxB lo by_::G⟩=some (.normal,⟨T',rsB bb::mxB lo by_::G'⟩):=by
 have ip:=fun(hh:HF) (kd:IntKind)=>slD.idx (h:=hh) (k:=kd) (sz:=15) hi (by simp[dvC,Xt,hm])
 have jp:=fun(hh:HF) (kd:IntKind)=>slD.idx (h:=hh) (k:=kd) (sz:=15) hj (by simp[dvC,Xt,hm2])
 have hb:=Ty hg (n:=Tk) rfl
 have tg:(moD g).take 8=moD g:=Ze (by rw[Xb];omega)
 obtain⟨k1,k2,k3,k4,k5,k6,k7,k8,rfl⟩:=eight hm
 obtain⟨n1,n2,n3,n4,n5,n6,n7,n8,rfl⟩:=eight hm2
 have e8:mo [k1,k2,k3,k4,k5,k6,k7,k8]=[.int .i64 (.ofNat k1),.int .i64 (.ofNat k2),.int .i64 (.ofNat k3),.int .i64 (.ofNat k4),.int .i64 (.ofNat k5),.int .i64 (.ofNat k6),.int .i64 (.ofNat k7),.int .i64 (.ofNat k8)]:=rfl
 have f8:mo [n1,n2,n3,n4,n5,n6,n7,n8]=[.int .i64 (.ofNat n1),.int .i64 (.ofNat n2),.int .i64 (.ofNat n3),.int .i64 (.ofNat n4),.int .i64 (.ofNat n5),.int .i64 (.ofNat n6),.int .i64 (.ofNat n7),.int .i64 (.ofNat n8)]:=rfl
 have z8:moD Tk=[.p (.int .i64 (.ofNat 0)),.p (.int .i64 (.ofNat 0)),.p (.int .i64 (.ofNat 0)),.p (.int .i64 (.ofNat 0)),.p (.int .i64 (.ofNat 0)),.p (.int .i64 (.ofNat 0)),.p (.int .i64 (.ofNat 0)),.p (.int .i64 (.ofNat 0))]:=rfl
 rw[z8]at hb
 simp only[dvC,e8,f8,ZR,ZL]at ip jp
 rw[e8,f8]at h1
 have hz:=decide_eq_false hz
 simp only[dvC,e8,f8,ZR,ZL]at h2
 have hlen:=sr.len
 apply exg1
 simp(decide:=true)only[basR,Uo,basP,basB,EVS,EVN,EVF,EVH,reduceIte,Nat.reduceEqDiff,Nat.reduceLeDiff,Nat.reduceAdd,hmd,MDS,t4,t5,ip,jp,h1,hb,hz,XT,Vn,T7,XK,XS,Zq,Zm,Zr,h2,h3,hlen]
 rfl
theorem bas_bad {E:Oracle}{K i j:Nat}(hmd:E.mode=md){lo by_:PL}{dcs:List (List PL)}(slD:Sl by_ dcs){a b c e p q a2 b2 c2 e2 p2 q2:PL}{m m2 g:List Nat}{ix ix2:Nat}(hi:dcs[i]? =some (dvC a b c e m p q ix))(hj:dcs[j]? =some (dvC a2 b2 c2 e2 m2 p2 q2 ix2))(hm:m.length=8)(hm2:m2.length=8)(hg:g.length=8)
  (h1:E.pure 65 [.agg (mo m),.agg (mo m2)]=some (.agg (mo g))) (hz:g≠Tk) {sp qq r:PL} {es:List (List PL)} (h2:E.pure 66 [.agg (dvC a b c e m p q ix),.agg (dvC a2 b2 c2 e2 m2 p2 q2 ix2)]=some (.tup [.one sp,.one (.int .i64 (.ofNat 0))])) (h3:E.pure 67 [.agg [lo,by_,.int .i64 (.ofNat 9223372036854775807),.bool true],.one sp]=some (.tup [.one qq,.one r,.one (.bool true)])) (sr:Sl r es) (hes:0<es.length) {T:List (Nat×DV)} (t4:Xf T 4=some (.one (.ptr 0 0 0 0))) (t5:Xf T 5=some (.one (.ptr 1 0 0 0))) (bb:Bool) (G:List Blk):
  ∃T' G',basR E K ⟨(28,.one (.p (.int .i64 (.ofNat j))))::(27,.one (.p (.int .i64 (.ofNat i))))::T,rsB bb::mxB lo by_::G⟩=some (.ret,⟨T',rsB false::mxB lo by_::G'⟩):=by
 have ip:=fun(hh:HF) (kd:IntKind)=>slD.idx (h:=hh) (k:=kd) (sz:=15) hi (by simp[dvC,Xt,hm])
 have jp:=fun(hh:HF) (kd:IntKind)=>slD.idx (h:=hh) (k:=kd) (sz:=15) hj (by simp[dvC,Xt,hm2])
 have hb:=Ty hg (n:=Tk) rfl
 have tg:(moD g).take 8=moD g:=Ze (by rw[Xb];omega)
 obtain⟨k1,k2,k3,k4,k5,k6,k7,k8,rfl⟩:=eight hm
 obtain⟨n1,n2,n3,n4,n5,n6,n7,n8,rfl⟩:=eight hm2
 have e8:mo [k1,k2,k3,k4,k5,k6,k7,k8]=[.int .i64 (.ofNat k1),.int .i64 (.ofNat k2),.int .i64 (.ofNat k3),.int .i64 (.ofNat k4),.int .i64 (.ofNat k5),.int .i64 (.ofNat k6),.int .i64 (.ofNat k7),.int .i64 (.ofNat k8)]:=rfl
 have f8:mo [n1,n2,n3,n4,n5,n6,n7,n8]=[.int .i64 (.ofNat n1),.int .i64 (.ofNat n2),.int .i64 (.ofNat n3),.int .i64 (.ofNat n4),.int .i64 (.ofNat n5),.int .i64 (.ofNat n6),.int .i64 (.ofNat n7),.int .i64 (.ofNat n8)]:=rfl
 have z8:moD Tk=[.p (.int .i64 (.ofNat 0)),.p (.int .i64 (.ofNat 0)),.p (.int .i64 (.ofNat 0)),.p (.int .i64 (.ofNat 0)),.p (.int .i64 (.ofNat 0)),.p (.int .i64 (.ofNat 0)),.p (.int .i64 (.ofNat 0)),.p (.int .i64 (.ofNat 0))]:=rfl
 rw[z8]at hb
 simp only[dvC,e8,f8,ZR,ZL]at ip jp
 rw[e8,f8]at h1
 have hz:=decide_eq_false hz
 simp only[dvC,e8,f8,ZR,ZL]at h2
 have hlen:=sr.len
 apply exg1
 simp(decide:=true)only[basR,Uo,basP,basB,EVS,EVN,EVF,EVH,reduceIte,Nat.reduceEqDiff,Nat.reduceLeDiff,Nat.reduceAdd,hmd,MDS,t4,t5,ip,jp,h1,hb,hz,XT,Vn,T7,XK,XS,Zq,Zm,Zr,h2,h3,hlen,hes]
 rfl
structure StdB (B:Base):Prop extends StdO B where
 it:∀n,n<1000000->B.E0.iter 99 [.ref [.int .i64 (.ofNat n)]]=some (prs n)
theorem Base.iter (B:Base)(K n:Nat):(B.E K n).iter=B.E0.iter:=by
 induction n with
 |zero=>rfl
 |succ n ih=>exact ih
theorem StdB.evtI {B:Base}(hB:StdB B):Evt B fun E _=>∀n,n<1000000->E.iter 99 [.ref [.int .i64 (.ofNat n)]]=some (prs n):=
 Evt.of fun K n m hm=>by rw[Base.iter];exact hB.it m hm
theorem ppairs_ret {B:Base}(hB:Std B)(n:Nat):Ret B 64 [.one (.int .i64 (.ofNat n))] (.one (.fn 99 [.ref [.int .i64 (.ofNat n)]])):=by
 have hmk:Vj 99 [.one (.ptr 0 0 0 0)]=some ⟨.one (.fn 99 [.ptr 0 0 0 0]),[],[],[]⟩:=rfl
 refine Ret.of (hB.tab _ _ rfl) (hB.evt.mono fun E K hmd=> ?_)
 simp(decide:=true)only[EVS,EVN,reduceIte,x64,hmk]
 rfl
inductive BasR (E:Oracle)(lo by_:PL)(dcs:List (List PL)):List (Nat×Nat)->Bool->Prop
 |nil:BasR E lo by_ dcs [] true
 |skip {i j:Nat} {ps:List (Nat×Nat)} {r:Bool} {a b c e p q a2 b2 c2 e2 p2 q2:PL} {m m2 g:List Nat} {ix ix2:Nat} (hi:dcs[i]? =some (dvC a b c e m p q ix)) (hj:dcs[j]? =some (dvC a2 b2 c2 e2 m2 p2 q2 ix2)) (hm:m.length=8) (hm2:m2.length=8) (hg:g.length=8)
   (h1:E.pure 65 [.agg (mo m),.agg (mo m2)]=some (.agg (mo g))) (hz:g=Tk) (h:BasR E lo by_ dcs ps r):BasR E lo by_ dcs ((i,j)::ps) r
 |ok {i j:Nat} {ps:List (Nat×Nat)} {r:Bool} {a b c e p q a2 b2 c2 e2 p2 q2:PL} {m m2 g:List Nat} {ix ix2:Nat} (hi:dcs[i]? =some (dvC a b c e m p q ix)) (hj:dcs[j]? =some (dvC a2 b2 c2 e2 m2 p2 q2 ix2)) (hm:m.length=8) (hm2:m2.length=8) (hg:g.length=8)
   (h1:E.pure 65 [.agg (mo m),.agg (mo m2)]=some (.agg (mo g))) (hz:g≠Tk) {sp qq rr:PL} (h2:E.pure 66 [.agg (dvC a b c e m p q ix),.agg (dvC a2 b2 c2 e2 m2 p2 q2 ix2)]=some (.tup [.one sp,.one (.int .i64 (.ofNat 0))]))
   (h3:E.pure 67 [.agg [lo,by_,.int .i64 (.ofNat 9223372036854775807),.bool true],.one sp]=some (.tup [.one qq,.one rr,.one (.bool true)])) (sr:Sl rr []) (h:BasR E lo by_ dcs ps r):BasR E lo by_ dcs ((i,j)::ps) r
 |bad {i j:Nat} {ps:List (Nat×Nat)} {a b c e p q a2 b2 c2 e2 p2 q2:PL} {m m2 g:List Nat} {ix ix2:Nat} (hi:dcs[i]? =some (dvC a b c e m p q ix)) (hj:dcs[j]? =some (dvC a2 b2 c2 e2 m2 p2 q2 ix2)) (hm:m.length=8) (hm2:m2.length=8) (hg:g.length=8)
   (h1:E.pure 65 [.agg (mo m),.agg (mo m2)]=some (.agg (mo g))) (hz:g≠Tk) {sp qq rr:PL} {es:List (List PL)} (h2:E.pure 66 [.agg (dvC a b c e m p q ix),.agg (dvC a2 b2 c2 e2 m2 p2 q2 ix2)]=some (.tup [.one sp,.one (.int .i64 (.ofNat 0))]))
   (h3:E.pure 67 [.agg [lo,by_,.int .i64 (.ofNat 9223372036854775807),.bool true],.one sp]=some (.tup [.one qq,.one rr,.one (.bool true)])) (sr:Sl rr es) (hes:0<es.length):BasR E lo by_ dcs ((i,j)::ps) false
abbrev prP (ps:List (Nat×Nat)):List (List PV):=ps.map fun p=>[.one (.int .i64 p.1),.one (.int .i64 p.2)]
abbrev exB (b:Bool):Ex:=match b with |true=>.normal|false=>.ret
theorem bas_go {E:Oracle}{K:Nat}(hmd:E.mode=md){lo by_:PL}{dcs:List (List PL)}(slD:Sl by_ dcs){T:List (Nat×DV)}(t4:Xf T 4=some (.one (.ptr 0 0 0 0)))(t5:Xf T 5=some (.one (.ptr 1 0 0 0))){ps:List (Nat×Nat)}{r:Bool}(h:BasR E lo by_ dcs ps r):
  ∀(G:List Blk),∃G',VW T (basR E K) [27,28] (prP ps) (rsB false::mxB lo by_::G)=some (exB r,⟨T,rsB false::mxB lo by_::G'⟩):=by
 have step:∀(i j:Nat) (ps:List (Nat×Nat)) (H:List Blk),VW T (basR E K) [27,28] (prP ((i,j)::ps)) H=(match basR E K ⟨(28,.one (.p (.int .i64 (.ofNat j))))::(27,.one (.p (.int .i64 (.ofNat i))))::T,H⟩with
   |some (.normal,s)=>VW T (basR E K) [27,28] (prP ps) s.H
   |some (.exit id,s)=>some (.exit id,⟨T,s.H⟩)
   |some (.ret,s)=>some (.ret,⟨T,s.H⟩)
   |none=>none):=fun i j ps H=>rfl
 induction h with
 |nil=>intro G;exact⟨G,rfl⟩
 |skip hi hj hm hm2 hg h1 hz h ih=>
  intro G
  obtain⟨T',G1,g1⟩:=bas_skip (K:=K) hmd slD hi hj hm hm2 hg h1 hz t4 t5 false G
  obtain⟨G',g2⟩:=ih G1
  exact⟨G',by rw[step,g1];exact g2⟩
 |ok hi hj hm hm2 hg h1 hz h2 h3 sr h ih=>
  intro G
  obtain⟨T',G1,g1⟩:=bas_ok (K:=K) hmd slD hi hj hm hm2 hg h1 hz h2 h3 sr t4 t5 false G
  obtain⟨G',g2⟩:=ih G1
  exact⟨G',by rw[step,g1];exact g2⟩
 |bad hi hj hm hm2 hg h1 hz h2 h3 sr hes=>
  intro G
  obtain⟨T',G1,g1⟩:=bas_bad (K:=K) hmd slD hi hj hm hm2 hg h1 hz h2 h3 sr hes t4 t5 false G
  exact⟨G1,by rw[step,g1]⟩
theorem ev_rfun {E:Oracle}{K:Nat}{f:XOpd}{vars:List Nat}{pre body:XCode}{s:St}{fn:Nat}{caps:List PL}{xss:List (List PV)}(hf:f.eval s.T=some (.one (.p (.fn fn caps))))(hi:E.iter fn caps=some xss)(hfl:(pre.flat&&body.flat&&Nat.blt fn bnd)=true):
  Xp E K 0 (.rfun f vars pre body) s=VW s.T (Uo (fun s=>Xp E K 0 pre s) (fun s=>Xp E K 0 body s)) vars xss s.H:=by
 simp only[Xp,hf,hi,hfl,cond_true]
theorem bas_cells {B:Base}(hB:StdB B){lo L by_:PL}{dcs:List (List PL)}(slD:Sl by_ dcs)(hnd:dcs.length<1000000)(hv:Ret B 57 [.one lo] (.one (.bool true)))(h1:Ret B 63 [.one L,.one lo] (.one by_)){r:Bool}(hr:Evt B fun E _=>BasR E lo by_ dcs (Uq dcs.length dcs.length) r):
  Ret B 20 [.one L,.one lo] (.one (.bool r)):=by
 have hp:=ppairs_ret hB.toStd dcs.length
 refine Ret.of (hB.tab _ _ rfl) ((hr.and (h1.evt.and (hv.evt.and (hp.evt.and (hB.evtI.and hB.toStd.evt))))).mono fun E K ⟨e0,e1,ev,ep,ei,hmd⟩=> ?_)
 have hlen:=slD.len
 obtain⟨G',g1⟩:=bas_go (K:=K) (T:=[(26,.one (.p (.fn 99 [.ref [.int .i64 (.ofNat dcs.length)]]))),(25,.one (.p (.int .i64 (.ofNat dcs.length)))),(24,.one (.p by_)),(23,.one (.ptr 1 0 0 1)),(4,.one (.ptr 0 0 0 0)),(5,.one (.ptr 1 0 0 0))]) hmd slD rfl rfl e0 []
 have g2:=(ev_rfun (E:=E) (K:=K) (f:=.t 26) (vars:=[27,28]) (pre:=basP) (body:=basB) (s:=⟨[(26,.one (.p (.fn 99 [.ref [.int .i64 (.ofNat dcs.length)]]))),(25,.one (.p (.int .i64 (.ofNat dcs.length)))),(24,.one (.p by_)),(23,.one (.ptr 1 0 0 1)),(4,.one (.ptr 0 0 0 0)),(5,.one (.ptr 1 0 0 0))],rsB false::mxB lo by_::[]⟩) rfl (ei _ hnd) (by rfl)).trans g1
 simp only[basP,basB]at g2
 cases r with
 |true=>simp(decide:=true)only[EVS,EVN,EVH,reduceIte,Nat.reduceAdd,x20,hmd,MDS,ev,e1,ep,hlen,g2,exB]
 |false=>simp(decide:=true)only[EVS,EVN,EVH,reduceIte,Nat.reduceAdd,x20,hmd,MDS,ev,e1,ep,hlen,g2,exB]
structure SpOk (d e:Dv):Prop where
 ht:Sq d.1.1
 t0:d.1.1≠0
 hs:Sq e.1.1
 s0:e.1.1≠0
 zt:Sz d.2.1
 zs:Sz e.2.1
 ot:∀u∈d.2.1,XF (Xh (Wv (X2 d.1.2 e.1.2) d.1.2) u.2)
 os:∀u∈e.2.1,XF (Xh (Wv (X2 d.1.2 e.1.2) e.1.2) u.2)
 rt:Sz (Tp (X2 d.1.2 e.1.2) d.1 d.2.1)
 rs:Sz (Tp (X2 d.1.2 e.1.2) e.1 e.2.1)
 lt:d.2.1.length<400000
 ls:e.2.1.length<400000
abbrev spD (d e:Dv):List Qm:=spairQ d.1 d.2.1 e.1 e.2.1
inductive BasP (o:List (List Int))(ds:List Dv):List (Nat×Nat)->Bool->Prop
 |nil:BasP o ds [] true
 |skip {i j:Nat} {d e:Dv} {ps:List (Nat×Nat)} {r:Bool} (hi:ds[i]? =some d) (hj:ds[j]? =some e) (hg:gcdM d.1.2 e.1.2=Tk) (h:BasP o ds ps r):BasP o ds ((i,j)::ps) r
 |ok {i j n:Nat} {d e:Dv} {ps:List (Nat×Nat)} {r:Bool} {qs':List (List Qm)} (hi:ds[i]? =some d) (hj:ds[j]? =some e) (hg:gcdM d.1.2 e.1.2≠Tk) (hs:SpOk d e) (hd:DistQ (spD d e)) (hl:(spD d e).length<60000)
   (hr:DivP o Sq SzL XF ds true n (U3 o (spD d e)) (List.replicate ds.length []) [] qs' []) (h:BasP o ds ps r):BasP o ds ((i,j)::ps) r
 |bad {i j n:Nat} {d e:Dv} {ps:List (Nat×Nat)} {qs':List (List Qm)} {r':List Qm} (hi:ds[i]? =some d) (hj:ds[j]? =some e) (hg:gcdM d.1.2 e.1.2≠Tk) (hs:SpOk d e) (hd:DistQ (spD d e)) (hl:(spD d e).length<60000)
   (hr:DivP o Sq SzL XF ds true n (U3 o (spD d e)) (List.replicate ds.length []) [] qs' r') (hne:r'≠[]):BasP o ds ((i,j)::ps) false
theorem basR_evt {B:Base}(hB:StdB B){lo by_:PL}{o:List (List Int)}(so:IsO lo o)(ho:Tj o)(hol:o.length<1000000){dcs:List (List PL)}{ds:List Dv}(slD:Sl by_ dcs)(hds:IsDvs dcs ds)(hdl:ds.length<1000000){ps:List (Nat×Nat)}{r:Bool}(h:BasP o ds ps r):Evt B fun E _=>BasR E lo by_ dcs ps r:=by
 induction h with
 |nil=>exact Evt.of fun _ _=>.nil
 |@skip i j d e ps r hi hj hg h ih=>
  obtain⟨dc,k1,k2⟩:=hds.get i d hi
  obtain⟨ec,l1,l2⟩:=hds.get j e hj
  have m1:=k2.mok
  have m2:=l2.mok
  have g1:=pgcdM_ret hB.toStd m1 m2
  have g8:(gcdM d.1.2 e.1.2).length=8:=by rw[hg];rfl
  obtain⟨a1,a2,a3,a4,pp,rr,rfl,q,hk,hpp,hrr⟩:=k2
  obtain⟨b1,b2,b3,b4,pp2,rr2,rfl,q2,hk2,hpp2,hrr2⟩:=l2
  exact(ih.and g1.evt).mono fun E K ⟨e0,e1⟩=>.skip k1 l1 m1.1 m2.1 g8 e1 hg e0
 |@ok i j n d e ps r qs' hi hj hg hs hd hl hr h ih=>
  obtain⟨dc,k1,k2⟩:=hds.get i d hi
  obtain⟨ec,l1,l2⟩:=hds.get j e hj
  have m1:=k2.mok
  have m2:=l2.mok
  have g1:=pgcdM_ret hB.toStd m1 m2
  have g8:(gcdM d.1.2 e.1.2).length=8:=by simp[gcdM,m1.1,m2.1]
  obtain⟨sp,s1,s2⟩:=pspairD_ret hB.toStd k2 l2 hs.ht hs.t0 hs.hs hs.s0 hs.zt hs.zs hs.ot hs.os hs.rt hs.rs hs.lt hs.ls
  obtain⟨ls,rr,v1,v2,es,v3,v4⟩:=pdivide_ret hB.toStdO (l:=9223372036854775807) (by omega) so ho hol slD hds hdl (lp:=.lst sp) ⟨_,.lst,s2⟩ hd hl hr
  cases v4
  obtain⟨a1,a2,a3,a4,pp,rr,rfl,q,hk,hpp,hrr⟩:=k2
  obtain⟨b1,b2,b3,b4,pp2,rr2,rfl,q2,hk2,hpp2,hrr2⟩:=l2
  exact(ih.and (g1.evt.and (s1.evt.and v1.evt))).mono fun E K ⟨e0,e1,e2,e3⟩=>.ok k1 l1 m1.1 m2.1 g8 e1 hg e2 e3 v3 e0
 |@bad i j n d e ps qs' r' hi hj hg hs hd hl hr hne=>
  obtain⟨dc,k1,k2⟩:=hds.get i d hi
  obtain⟨ec,l1,l2⟩:=hds.get j e hj
  have m1:=k2.mok
  have m2:=l2.mok
  have g1:=pgcdM_ret hB.toStd m1 m2
  have g8:(gcdM d.1.2 e.1.2).length=8:=by simp[gcdM,m1.1,m2.1]
  obtain⟨sp,s1,s2⟩:=pspairD_ret hB.toStd k2 l2 hs.ht hs.t0 hs.hs hs.s0 hs.zt hs.zs hs.ot hs.os hs.rt hs.rs hs.lt hs.ls
  obtain⟨ls,rr,v1,v2,es,v3,v4⟩:=pdivide_ret hB.toStdO (l:=9223372036854775807) (by omega) so ho hol slD hds hdl (lp:=.lst sp) ⟨_,.lst,s2⟩ hd hl hr
  have hes:0<es.length:=by rw[v4.length];exact List.length_pos_iff.2 hne
  obtain⟨a1,a2,a3,a4,pp,rr,rfl,q,hk,hpp,hrr⟩:=k2
  obtain⟨b1,b2,b3,b4,pp2,rr2,rfl,q2,hk2,hpp2,hrr2⟩:=l2
  exact(g1.evt.and (s1.evt.and v1.evt)).mono fun E K ⟨e1,e2,e3⟩=>.bad k1 l1 m1.1 m2.1 g8 e1 hg e2 e3 v3 hes
theorem Ur {B:Base}(hB:StdB B){lo L:PL}{o:List (List Int)}(so:IsO lo o)(ho:Tj o)(hol:o.length<1000000)(hv:Ret B 57 [.one lo] (.one (.bool true))){lls:List PL}{fs:List (List Qm)}(sl:Sl L (XD lls))(hfs:PQs lls fs)(hd:∀f∈fs,DistQ f/\f.length<60000)(hl:fs.length<400000)
  (hdl:(WN o fs 0).length<1000000) {r:Bool} (h:BasP o (WN o fs 0) (Uq (WN o fs 0).length (WN o fs 0).length) r):Ret B 20 [.one L,.one lo] (.one (.bool r)):=by
 obtain⟨by_,dcs,h1,slD,h2⟩:=divisors_ret hB.toStdO so ho hol sl hfs hd hl
 have hlen:=h2.length
 have hr:=basR_evt hB so ho hol slD h2 hdl h
 rw[<-hlen]at hr
 exact bas_cells hB slD (by omega) hv h1 hr
end Go.Proofs.YtefpgecinlekpaaGreat
