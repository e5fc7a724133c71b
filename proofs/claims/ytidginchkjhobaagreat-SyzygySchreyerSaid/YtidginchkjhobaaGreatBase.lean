/- The library's sort, laid at this program (written by gen_lay.py). -/
import Derived.Shelf.Lay
import Derived.Ground.SlsfProg
import Derived.Test.YtidginchkjhobaaGreatTabOk
import Derived.Test.YtidginchkjhobaaGreatMap
import Derived.Test.YtidginchkjhobaaGreatEvSort
namespace Go.Proofs.YtidginchkjhobaaGreat
open Go.Shelf Go.Proofs
def Ln:Shelf.Ren where
 f:=fun x=>match x with
  |14=>186
  |20=>198
  |21=>199
  |22=>200
  |23=>201
  |24=>202
  |25=>203
  |26=>204
  |27=>205
  |46=>208
  |47=>209
  |48=>210
  |49=>211
  |50=>212
  |15=>187
  |57=>213
  |28=>206
  |29=>207
  |n=>n
 t:=fun x=>match x with
  |24=>75
  |22=>32
  |3=>3
  |25=>194
  |4=>4
  |0=>0
  |46=>215
  |45=>214
  |50=>219
  |66=>222
  |39=>172
  |55=>129
  |70=>226
  |76=>228
  |77=>229
  |53=>177
  |5=>5
  |9=>9
  |n=>n
 g:=fun x=>x
theorem A0:SlLaysF0.n14 Tryz.prog Ln where
 mixed:=by kernel_rfl
 f14 := ⟨ "slices.pdqsortCmpFunc[eliminant/api.Term]", by decide, Tryz.func186⟩
 f15:=Tryz.func187
 f20 := ⟨ "slices.insertionSortCmpFunc[eliminant/api.Term]", by decide, Tryz.func198⟩
 f21 := ⟨ "slices.heapSortCmpFunc[eliminant/api.Term]", by decide, Tryz.func199⟩
 f22 := ⟨ "slices.breakPatternsCmpFunc[eliminant/api.Term]", by decide, Tryz.func200⟩
 f23 := ⟨ "slices.choosePivotCmpFunc[eliminant/api.Term]", by decide, Tryz.func201⟩
 f24 := ⟨ "slices.reverseRangeCmpFunc[eliminant/api.Term]", by decide, Tryz.func202⟩
 f25 := ⟨ "slices.partialInsertionSortCmpFunc[eliminant/api.Term]", by decide, Tryz.func203⟩
 f26 := ⟨ "slices.partitionEqualCmpFunc[eliminant/api.Term]", by decide, Tryz.func204⟩
 f27 := ⟨ "slices.partitionCmpFunc[eliminant/api.Term]", by decide, Tryz.func205⟩
 f28:=Tryz.func206
 f29:=Tryz.func207
 f46 := ⟨ "slices.siftDownCmpFunc[eliminant/api.Term]", by decide, Tryz.func208⟩
 f47:=Tryz.func209
 f48:=Tryz.func210
 f49 := ⟨ "slices.medianAdjacentCmpFunc[eliminant/api.Term]", by decide, Tryz.func211⟩
 f50 := ⟨ "slices.medianCmpFunc[eliminant/api.Term]", by decide, Tryz.func212⟩
 f57 := ⟨ "slices.order2CmpFunc[eliminant/api.Term]", by decide, Tryz.func213⟩
 t0:=Tryz.underlying0
 a0:=Tryz.isAgg0
 z0:=Tryz.sizeOf0
 v0:=Tryz.zeroValue0
 t3:=Tryz.underlying3
 a3:=Tryz.isAgg3
 z3:=Tryz.sizeOf3
 v3:=Tryz.zeroValue3
 t4:=Tryz.underlying4
 a4:=Tryz.isAgg4
 z4:=Tryz.sizeOf4
 v4:=Tryz.zeroValue4
 t5:=Tryz.underlying5
 a5:=Tryz.isAgg5
 z5:=Tryz.sizeOf5
 v5:=Tryz.zeroValue5
 t9:=Tryz.underlying9
 a9:=Tryz.isAgg9
 z9:=Tryz.sizeOf9
 v9:=Tryz.zeroValue9
 t22:=Tryz.underlying32
 a22:=Tryz.isAgg32
 z22:=Tryz.sizeOf32
 v22:=Tryz.zeroValue32
 t25:=Tryz.underlying194
 a25:=Tryz.isAgg194
 z25:=Tryz.sizeOf194
 v25:=Tryz.zeroValue194
 t39:=Tryz.underlying172
 a39:=Tryz.isAgg172
 z39:=Tryz.sizeOf172
 v39:=Tryz.zeroValue172
 t45:=Tryz.underlying214
 a45:=Tryz.isAgg214
 z45:=Tryz.sizeOf214
 v45:=Tryz.zeroValue214
 t46:=Tryz.underlying215
 a46:=Tryz.isAgg215
 z46:=Tryz.sizeOf215
 v46:=Tryz.zeroValue215
 t50:=Tryz.underlying219
 a50:=Tryz.isAgg219
 z50:=Tryz.sizeOf219
 v50:=Tryz.zeroValue219
 t53:=Tryz.underlying177
 a53:=Tryz.isAgg177
 z53:=Tryz.sizeOf177
 v53:=Tryz.zeroValue177
 t55:=Tryz.underlying129
 a55:=Tryz.isAgg129
 z55:=Tryz.sizeOf129
 v55:=Tryz.zeroValue129
 t66:=Tryz.underlying222
 a66:=Tryz.isAgg222
 z66:=Tryz.sizeOf222
 v66:=Tryz.zeroValue222
 t70:=Tryz.underlying226
 a70:=Tryz.isAgg226
 z70:=Tryz.sizeOf226
 v70:=Tryz.zeroValue226
 t76:=Tryz.underlying228
 a76:=Tryz.isAgg228
 z76:=Tryz.sizeOf228
 v76:=Tryz.zeroValue228
 t77:=Tryz.underlying229
 a77:=Tryz.isAgg229
 z77:=Tryz.sizeOf229
 v77:=Tryz.zeroValue229
open Go.Ev Go.Num
theorem Kk:Tryz.prog.follows .mixedOrders=true:=by kernel_rfl
theorem IB (K:Nat):Ni (Ku md) (lift X K (Ku md)):=⟨rfl,(fun _ _ _ h=>by cases h),(fun _ _ _ _ h=>by cases h),rfl⟩
noncomputable def Bn:Xs:=⟨Ku md,X,IB⟩
theorem DR:Std Bn:=⟨rfl,fun f b h=>by
 unfold XV fL at h;cases a:Kp f [186]with
 |true=>rw[a,cond_true]at h;cases h
 |false=>rw[a,cond_false]at h;exact h⟩
theorem GH (K n:Nat):Ww Tryz.prog (Bn.E K n):=xD Kk X JU K _ (IA md) n
theorem FK {x y:N'}(l:isTerm x=true)(m:isTerm y=true):CC Tryz.prog 166 [.agg x,.agg y] (.one (.int .i64 (RG x y))):=by
 obtain⟨a,b,c,d,e1,j⟩:=Wp l;obtain⟨e,f,g,i,e2,k⟩:=Wp m;obtain⟨K,n,h⟩:=kB DR (x:=a) (y:=b) (z:=c) (u:=d) (x2:=e) (y2:=f) (z2:=g) (u2:=i) j.1 k.1;rw[<-e1,<-e2]at h;exact((GH K n).pure _ _ _ h).1
def GC:Xa:=⟨md,fun _ _=>none,
 fun f args H=>bif Nat.beq f 186 then RU args H else none,
 fun _ _=>none⟩
theorem Dq {x y:N'}(a:isTerm x=true)(b:isTerm y=true):CC Tryz.prog 166 [.agg x,.agg y] (.one (.int .i64 (U1 [] x y))):=FK a b
theorem Dp {f:PL}{o:M'}(s:TR f o)(p:Vt o)(e:o.length<1000000){x y:N'}(q:isTerm x=true)(r:isTerm y=true):CC Tryz.prog 170 [.agg x,.agg y,.one (.ref [f])] (.one (.int .i64 (U1 o x y))):=by
 obtain⟨a,b,c,d,e1,l⟩:=Wp q;obtain⟨g,i,j,k,e2,m⟩:=Wp r;obtain⟨K,n,h⟩:=vF DR s p e (x:=a) (y:=b) (z:=c) (u:=d) (x2:=g) (y2:=i) (z2:=j) (u2:=k) l m;rw[<-e1,<-e2]at h;exact((GH K n).pure _ _ _ h).1
theorem yX {args:X'}{H:V'}{d:DV}{Q:V'}(h:RU args H=some (d,Q)):CH Tryz.prog 186 args H d Q:=by
 unfold RU at h;split at h
 ·rename_i i XM n n2 D fn;split at h
  ·rename_i o a;obtain⟨B,l⟩:=Wg h;clear h;split at l
   ·rename_i b J;split at l
    ·rename_i c t;obtain⟨S,h⟩:=Wg l;clear l;simp only[Zs,YB]at S;obtain⟨⟨⟨⟨⟨⟨⟨⟨R,I⟩,c3⟩,c4⟩,c5⟩,c6⟩,W⟩,X⟩,Y⟩:=S;obtain rfl:=Zl c3;obtain rfl:=Zl c5;obtain rfl:=Zl c6;simp only[Za,Zp]at h;obtain⟨rfl,rfl⟩:=h;have f:TK c:=ZI.1 X;have q:D<4611686018427387904:=by simpa using B
     have hn:c.length<1000000:=by simpa using W
     have C:∀x∈c,¬U1 o x x<0:=fun x m=>th
     have U:∀x∈c,∀y∈c,∀z∈c,U1 o x y<0->U1 o y z<0->U1 o x z<0:=fun x m y p z P=>o7 (f x m) (f y p) (f z P)
     have E:∀x∈c,∀y∈c,∀z∈c,¬U1 o x y<0->¬U1 o y z<0->¬U1 o x z<0:=fun x m y p z P=>tf (f x m) (f y p) (f z P)
     have F:∀x∈c,∀y∈c,¬U1 o x y<0->¬U1 o y x<0->x=y:=fun x m y p h1 h2=>S4 Y x m y p (td (f x m) (f y p) h1 h2)
     unfold keyOf at a;split at a
     ·rename_i g;obtain⟨s,l⟩:=XX a;subst l;obtain rfl:=Zl s;exact Hs A0 (k:=12) Tryz.isAgg75 Tryz.sizeOf75 rfl rfl (dY Tryz.func166 (by kernel_rfl) rfl) [] (U1 []) H i b c (TA [] c) D J R I (Zl c4) (gA t) q (by omega)
       (fun x m y p=>Dq (f x m) (f y p)) C U E F (Rr c) (QU f)
     ·rename_i g j vj;obtain⟨s,l⟩:=Wg a;clear a;rw[Zs,YB]at s;obtain⟨s,u⟩:=s;obtain rfl:=Zl s;have A:j≠i:=fun e=>by rw[e,YA]at u;cases u
      split at l
      ·rename_i V K;obtain⟨G,r⟩:=Wg l;clear l;rw[Zs,YB]at G;obtain⟨M,G⟩:=G;obtain rfl:=Zl G;split at r
       ·rename_i T L;obtain⟨so,ho,N⟩:=uM r;exact EY A0 (k:=12) Tryz.isAgg75 Tryz.sizeOf75 rfl (dY Tryz.func170 (by kernel_rfl) rfl) [.ref [T]] (.one (.fn _ [.ptr j V.XM 0 0])) (U1 o) H i b c (TA o c) D J R I (Zl c4) (gA t)
         (fun w O μ v hI hr=>FP (by rfl) A J K M (cs:=[T]) (rest:=[]) L w O μ v hI I hr) q (by omega)
         (fun x m y p=>Dp so ho N (f x m) (f y p)) C U E F (Rr c) (QU f)
       ·cases r
      ·cases l
     ·cases a
    ·cases l
   ·cases l
  ·cases h
 ·rename_i D g Z;obtain⟨B,h⟩:=XX h;cases h;exact EW A0 rfl D _ H
 ·cases h
theorem EX:pT Tryz.prog 186:=dY Tryz.func186 (by kernel_rfl) rfl
theorem DO:Ww Tryz.prog GC:=by
 refine⟨(fun _ _ _ h=>by cases h),fun f args H d b h=> ?_,(fun _ _ _ h=>by cases h)⟩;simp only[GC]at h;cases a:Nat.beq f 186 with
 |true=>
  obtain rfl:=Zl a;exact⟨yX h,EX⟩
 |false=>rw[a]at h;cases h
theorem Gx:∀f a,XV f=some a->PB Tryz.prog f a:=tX _ JU
theorem Iz (K:Nat):Ni GC (lift XV K GC):=by
 refine⟨rfl,(fun _ _ _ h=>by cases h),fun f a H r h=> ?_,rfl⟩;have c:=h;simp only[GC]at h;cases b:Nat.beq f 186 with
 |true=>
  obtain rfl:=Zl b;exact c
 |false=>rw[b]at h;cases h
noncomputable def Bs:Xs:=⟨GC,XV,Iz⟩
theorem IE:Is Bs:=⟨⟨rfl,fun _ _ h=>h⟩,fun _ _ _ h=>BZ h⟩
theorem J4 (K n:Nat):Ww Tryz.prog (Bs.E K n):=xD Kk XV Gx K _ DO n
def Gp:N'->Option (List (List PV))
 |[.ref [.int .i64 (.ofNat n)]]=>bif Nat.blt n 1000000 then some (DS n)else none
 |_=>none
def E0:Xa:=⟨md,fun _ _=>none,
 fun f args H=>bif Nat.beq f 132 then R4 args H
  else GC.heap f args H,
 fun f caps=>bif Nat.beq f 141 then Gp caps else none⟩
theorem JZ:Ww Tryz.prog E0:=by
 refine⟨(fun _ _ _ h=>by cases h),fun f args H d c h=> ?_,fun f b g h=> ?_⟩
 ·simp only[E0]at h;cases a:Nat.beq f 132 with
  |true=>
   obtain rfl:=Zl a;rw[a,cond_true]at h;exact yh Kk IE J4 Hb args H d c h
  |false=>
   rw[a,cond_false]at h;exact DO.heap _ _ _ _ _ h
 ·simp only[E0]at h;obtain⟨a,h⟩:=Wg h;obtain rfl:=Zl a;clear a;unfold Gp at h;split at h
  ·rename_i n _;obtain⟨e,rfl⟩:=XX h;refine⟨uL n (by simpa using e),dY Tryz.func141 (by kernel_rfl) rfl⟩
  ·cases h
theorem J0 (K:Nat):Ni E0 (lift XV K E0):=by
 refine⟨rfl,(fun _ _ _ h=>by cases h),fun f a H r h=> ?_,rfl⟩;have c:=h;simp only[E0]at h;cases b:Nat.beq f 132 with
 |true=>
  obtain rfl:=Zl b;exact c
 |false=>
  rw[b,cond_false]at h;simp only[GC]at h;cases b:Nat.beq f 186 with
  |true=>
   obtain rfl:=Zl b;exact c
  |false=>rw[b]at h;cases h
noncomputable def BB:Xs:=⟨E0,XV,J0⟩
theorem F7:pv BB:=⟨⟨⟨rfl,fun _ _ h=>h⟩,fun _ _ _ h=>h⟩,fun n a=>by
 show(bif Nat.blt n 1000000 then some (DS n)else none)=some (DS n);rw[N6 a];rfl⟩
theorem IF:vM BB:=⟨⟨rfl,fun _ _ h=>h⟩,fun _ _ _ h=>h⟩
theorem J5 (K n:Nat):Ww Tryz.prog (BB.E K n):=xD Kk XV Gx K _ JZ n
end Go.Proofs.YtidginchkjhobaaGreat
