/- The library's sort, laid at this program (written by gen_lay.py). -/
import Derived.Shelf.Lay
import Derived.Ground.SlsfProg
import Derived.Test.YtefpgecinlekpaaGreatTabOk
import Derived.Test.YtefpgecinlekpaaGreatMap
import Derived.Test.YtefpgecinlekpaaGreatEvSort
import Derived.Test.YtefpgecinlekpaaGreatQMin
namespace Go.Proofs.YtefpgecinlekpaaGreat
open Go.Shelf Go.Proofs
def F5:Shelf.Ren where
 f:=fun x=>match x with
  |14=>150
  |20=>175
  |21=>176
  |22=>177
  |23=>178
  |24=>179
  |25=>180
  |26=>181
  |27=>182
  |46=>201
  |47=>193
  |48=>194
  |49=>202
  |50=>203
  |15=>141
  |57=>210
  |28=>168
  |29=>169
  |n=>n
 t:=fun x=>match x with
  |24=>63
  |22=>29
  |3=>3
  |25=>152
  |4=>4
  |0=>0
  |46=>172
  |45=>171
  |50=>176
  |66=>190
  |39=>149
  |55=>148
  |70=>194
  |76=>205
  |77=>206
  |53=>161
  |5=>5
  |9=>9
  |n=>n
 g:=fun x=>x
theorem sj:SlLaysF0.n14 Tryz.prog F5 where
 mixed:=by kernel_rfl
 f14 := ⟨ "slices.pdqsortCmpFunc[eliminant/api.Term]", by decide, Tryz.func150⟩
 f15:=Tryz.func141
 f20 := ⟨ "slices.insertionSortCmpFunc[eliminant/api.Term]", by decide, Tryz.func175⟩
 f21 := ⟨ "slices.heapSortCmpFunc[eliminant/api.Term]", by decide, Tryz.func176⟩
 f22 := ⟨ "slices.breakPatternsCmpFunc[eliminant/api.Term]", by decide, Tryz.func177⟩
 f23 := ⟨ "slices.choosePivotCmpFunc[eliminant/api.Term]", by decide, Tryz.func178⟩
 f24 := ⟨ "slices.reverseRangeCmpFunc[eliminant/api.Term]", by decide, Tryz.func179⟩
 f25 := ⟨ "slices.partialInsertionSortCmpFunc[eliminant/api.Term]", by decide, Tryz.func180⟩
 f26 := ⟨ "slices.partitionEqualCmpFunc[eliminant/api.Term]", by decide, Tryz.func181⟩
 f27 := ⟨ "slices.partitionCmpFunc[eliminant/api.Term]", by decide, Tryz.func182⟩
 f28:=Tryz.func168
 f29:=Tryz.func169
 f46 := ⟨ "slices.siftDownCmpFunc[eliminant/api.Term]", by decide, Tryz.func201⟩
 f47:=Tryz.func193
 f48:=Tryz.func194
 f49 := ⟨ "slices.medianAdjacentCmpFunc[eliminant/api.Term]", by decide, Tryz.func202⟩
 f50 := ⟨ "slices.medianCmpFunc[eliminant/api.Term]", by decide, Tryz.func203⟩
 f57 := ⟨ "slices.order2CmpFunc[eliminant/api.Term]", by decide, Tryz.func210⟩
 t0:=Tryz.underlying0
 a0:=Tryz.isAgg0
 z0:=Tryz.sizeOf0
 v0:=Tryz.zeroValue0
 t3:=Tryz.underlying3
 a3:=Tryz.isAgg3
 z3:=Tryz.sizeOf3
 v3:=Tryz.zeroValue3
 t4:=Tryz.underlying4
 a4:=Tryz.isAgg4
 z4:=Tryz.sizeOf4
 v4:=Tryz.zeroValue4
 t5:=Tryz.underlying5
 a5:=Tryz.isAgg5
 z5:=Tryz.sizeOf5
 v5:=Tryz.zeroValue5
 t9:=Tryz.underlying9
 a9:=Tryz.isAgg9
 z9:=Tryz.sizeOf9
 v9:=Tryz.zeroValue9
 t22:=Tryz.underlying29
 a22:=Tryz.isAgg29
 z22:=Tryz.sizeOf29
 v22:=Tryz.zeroValue29
 t25:=Tryz.underlying152
 a25:=Tryz.isAgg152
 z25:=Tryz.sizeOf152
 v25:=Tryz.zeroValue152
 t39:=Tryz.underlying149
 a39:=Tryz.isAgg149
 z39:=Tryz.sizeOf149
 v39:=Tryz.zeroValue149
 t45:=Tryz.underlying171
 a45:=Tryz.isAgg171
 z45:=Tryz.sizeOf171
 v45:=Tryz.zeroValue171
 t46:=Tryz.underlying172
 a46:=Tryz.isAgg172
 z46:=Tryz.sizeOf172
 v46:=Tryz.zeroValue172
 t50:=Tryz.underlying176
 a50:=Tryz.isAgg176
 z50:=Tryz.sizeOf176
 v50:=Tryz.zeroValue176
 t53:=Tryz.underlying161
 a53:=Tryz.isAgg161
 z53:=Tryz.sizeOf161
 v53:=Tryz.zeroValue161
 t55:=Tryz.underlying148
 a55:=Tryz.isAgg148
 z55:=Tryz.sizeOf148
 v55:=Tryz.zeroValue148
 t66:=Tryz.underlying190
 a66:=Tryz.isAgg190
 z66:=Tryz.sizeOf190
 v66:=Tryz.zeroValue190
 t70:=Tryz.underlying194
 a70:=Tryz.isAgg194
 z70:=Tryz.sizeOf194
 v70:=Tryz.zeroValue194
 t76:=Tryz.underlying205
 a76:=Tryz.isAgg205
 z76:=Tryz.sizeOf205
 v76:=Tryz.zeroValue205
 t77:=Tryz.underlying206
 a77:=Tryz.isAgg206
 z77:=Tryz.sizeOf206
 v77:=Tryz.zeroValue206
def F4:Shelf.Ren where
 f:=fun x=>match x with
  |14=>140
  |20=>160
  |21=>161
  |22=>162
  |23=>163
  |24=>164
  |25=>165
  |26=>166
  |27=>167
  |46=>192
  |49=>195
  |50=>196
  |57=>209
  |n=>F5.f n
 t:=fun x=>match x with
  |24=>51
  |22=>48
  |25=>75
  |n=>F5.t n
 g:=fun x=>x
theorem Se:SlLaysF0.n14 Tryz.prog F4:=
 {sj with
  f14 := ⟨"slices.pdqsortCmpFunc[eliminant/api.Mono]", by decide, Tryz.func140⟩
  f20 := ⟨"slices.insertionSortCmpFunc[eliminant/api.Mono]", by decide, Tryz.func160⟩
  f21 := ⟨"slices.heapSortCmpFunc[eliminant/api.Mono]", by decide, Tryz.func161⟩
  f22 := ⟨"slices.breakPatternsCmpFunc[eliminant/api.Mono]", by decide, Tryz.func162⟩
  f23 := ⟨"slices.choosePivotCmpFunc[eliminant/api.Mono]", by decide, Tryz.func163⟩
  f24 := ⟨"slices.reverseRangeCmpFunc[eliminant/api.Mono]", by decide, Tryz.func164⟩
  f25 := ⟨"slices.partialInsertionSortCmpFunc[eliminant/api.Mono]", by decide, Tryz.func165⟩
  f26 := ⟨"slices.partitionEqualCmpFunc[eliminant/api.Mono]", by decide, Tryz.func166⟩
  f27 := ⟨"slices.partitionCmpFunc[eliminant/api.Mono]", by decide, Tryz.func167⟩
  f46 := ⟨"slices.siftDownCmpFunc[eliminant/api.Mono]", by decide, Tryz.func192⟩
  f49 := ⟨"slices.medianAdjacentCmpFunc[eliminant/api.Mono]", by decide, Tryz.func195⟩
  f50 := ⟨"slices.medianCmpFunc[eliminant/api.Mono]", by decide, Tryz.func196⟩
  f57 := ⟨"slices.order2CmpFunc[eliminant/api.Mono]", by decide, Tryz.func209⟩
  f15:=Tryz.func141
  f28:=Tryz.func168
  f29:=Tryz.func169
  f47:=Tryz.func193
  f48:=Tryz.func194
  t22:=Tryz.underlying48
  a22:=Tryz.isAgg48
  z22:=Tryz.sizeOf48
  v22:=Tryz.zeroValue48
  t25:=Tryz.underlying75
  a25:=Tryz.isAgg75
  z25:=Tryz.sizeOf75
  v25:=Tryz.zeroValue75}
open Go.Ev Go.Num
theorem FQ:Tryz.prog.follows .mixedOrders=true:=by kernel_rfl
theorem Et (K:Nat):Nk (F0 md) (lift X K (F0 md)):=⟨rfl,(fun _ _ _ h=>by cases h),(fun _ _ _ _ h=>by cases h),rfl⟩
noncomputable def Bn:Xr:=⟨F0 md,X,Et⟩
theorem rX:Std Bn:=⟨rfl,fun f b h=>by
 unfold XV dL at h;cases a:FT f [150,140]with
 |true=>rw[a,cond_true]at h;cases h
 |false=>rw[a,cond_false]at h;exact h⟩
theorem AG (K n:Nat):Wu Tryz.prog (Bn.E K n):=tO FQ X Fp K _ (Es md) n
theorem Cj {x y:List PL}(l:isTerm x=true)(m:isTerm y=true):CC Tryz.prog 134 [.agg x,.agg y] (.one (.int .i64 (Ra x y))):=by
 obtain⟨a,b,c,d,e1,j⟩:=Wp l;obtain⟨e,f,g,i,e2,k⟩:=Wp m;obtain⟨K,n,h⟩:=ij rX (x:=a) (y:=b) (z:=c) (u:=d) (x2:=e) (y2:=f) (z2:=g) (u2:=i) j.1 k.1;rw[<-e1,<-e2]at h;exact((AG K n).pure _ _ _ h).1
def C5:Xb:=⟨md,fun _ _=>none,
 fun f args H=>bif Nat.beq f 150 then Rh args H else bif Nat.beq f 140 then OK args H else none,
 fun _ _=>none⟩
theorem Ag {x y:List PL}(a:isTerm x=true)(b:isTerm y=true):CC Tryz.prog 134 [.agg x,.agg y] (.one (.int .i64 (UE [] x y))):=Cj a b
theorem Af {f:PL}{o:List (List Int)}(s:S6 f o)(p:VE o)(e:o.length<1000000){x y:List PL}(q:isTerm x=true)(r:isTerm y=true):CC Tryz.prog 126 [.agg x,.agg y,.one (.ref [f])] (.one (.int .i64 (UE o x y))):=by
 obtain⟨a,b,c,d,e1,l⟩:=Wp q;obtain⟨g,i,j,k,e2,m⟩:=Wp r;obtain⟨K,n,h⟩:=rI rX s p e (x:=a) (y:=b) (z:=c) (u:=d) (x2:=g) (y2:=i) (z2:=j) (u2:=k) l m;rw[<-e1,<-e2]at h;exact((AG K n).pure _ _ _ h).1
theorem vi {args:List DV}{H:List Xz}{d:DV}{Q:List Xz}(h:Rh args H=some (d,Q)):CH Tryz.prog 150 args H d Q:=by
 unfold Rh at h;split at h
 ·rename_i i XZ n n2 D fn;split at h
  ·rename_i o a;obtain⟨B,l⟩:=XX h;clear h;split at l
   ·rename_i b J;split at l
    ·rename_i c t;obtain⟨T,h⟩:=XX l;clear l;simp only[Zp,Yx]at T;obtain⟨⟨⟨⟨⟨⟨⟨⟨R,I⟩,c3⟩,S⟩,X⟩,Y⟩,Z⟩,c8⟩,c9⟩:=T;obtain rfl:=Zm c3;obtain rfl:=Zm X;obtain rfl:=Zm Y;simp only[Za,Zn]at h;obtain⟨rfl,rfl⟩:=h;have f:Ti c:=ZP.1 c8;have q:D<4611686018427387904:=by simpa using B
     have hn:c.length<1000000:=by simpa using Z
     have C:∀x∈c,¬UE o x x<0:=fun x m=>pg
     have V:∀x∈c,∀y∈c,∀z∈c,UE o x y<0->UE o y z<0->UE o x z<0:=fun x m y p z P=>lO (f x m) (f y p) (f z P)
     have E:∀x∈c,∀y∈c,∀z∈c,¬UE o x y<0->¬UE o y z<0->¬UE o x z<0:=fun x m y p z P=>pd (f x m) (f y p) (f z P)
     have F:∀x∈c,∀y∈c,¬UE o x y<0->¬UE o y x<0->x=y:=fun x m y p h1 h2=>Su c9 x m y p (pb (f x m) (f y p) h1 h2)
     unfold keyOf at a;split at a
     ·rename_i g;obtain⟨s,l⟩:=Xw a;subst l;obtain rfl:=Zm s;exact yC sj (k:=12) Tryz.isAgg63 Tryz.sizeOf63 rfl rfl (Ol Tryz.func134 (by kernel_rfl) rfl) [] (UE []) H i b c (U8 [] c) D J R I (Zm S) (NS t) q (by omega)
       (fun x m y p=>Ag (f x m) (f y p)) C V E F (SS c) (Qp f)
     ·rename_i g j vj;obtain⟨s,l⟩:=XX a;clear a;rw[Zp,Yx]at s;obtain⟨s,u⟩:=s;obtain rfl:=Zm s;have A:j≠i:=fun e=>by rw[e,YG]at u;cases u
      split at l
      ·rename_i W K;obtain⟨G,r⟩:=XX l;clear l;rw[Zp,Yx]at G;obtain⟨M,G⟩:=G;obtain rfl:=Zm G;split at r
       ·rename_i U L;obtain⟨so,ho,N⟩:=qJ r;exact BA sj (k:=12) Tryz.isAgg63 Tryz.sizeOf63 rfl (Ol Tryz.func126 (by kernel_rfl) rfl) [.ref [U]] (.one (.fn _ [.ptr j W.XZ 0 0])) (UE o) H i b c (U8 o c) D J R I (Zm S) (NS t)
         (fun w O μ v hI hr=>Cl (by rfl) A J K M (cs:=[U]) (rest:=[]) L w O μ v hI I hr) q (by omega)
         (fun x m y p=>Af so ho N (f x m) (f y p)) C V E F (SS c) (Qp f)
       ·cases r
      ·cases l
     ·cases a
    ·cases l
   ·cases l
  ·cases h
 ·rename_i D g cs;obtain⟨B,h⟩:=Xw h;cases h;exact sR sj rfl D _ H
 ·cases h
theorem Bz:l9 Tryz.prog 150:=Ol Tryz.func150 (by kernel_rfl) rfl
theorem Ck {x y:List PL}(c:UP x=true)(d:UP y=true):CC Tryz.prog 95 [.agg x,.agg y] (.one (.int .i64 (Ot x y))):=by
 obtain⟨e1,a⟩:=VT c;obtain⟨e2,b⟩:=VT d;obtain⟨K,n,h⟩:=Qa rX a.1 b.1;rw[<-e1,<-e2]at h;exact((AG K n).pure _ _ _ h).1
theorem qG {args:List DV}{H:List Xz}{d:DV}{s:List Xz}(h:OK args H=some (d,s)):CH Tryz.prog 140 args H d s:=by
 unfold OK at h;split at h
 ·rename_i i XZ n G o g;obtain⟨m,f⟩:=XX h;clear h;rw[Zp]at m;obtain⟨m,q⟩:=m;obtain rfl:=Zm m;split at f
  ·rename_i b E;split at f
   ·rename_i l p;obtain⟨t,h⟩:=Xw f;clear f;simp only[Zp,Yx]at t;obtain⟨⟨⟨⟨⟨⟨⟨u,v⟩,c3⟩,w⟩,A⟩,B⟩,C⟩,D⟩:=t;obtain rfl:=Zm c3;obtain rfl:=Zm A;obtain rfl:=Zm B;simp only[Zn]at h;obtain⟨rfl,rfl⟩:=h;have a:kl l:=ZP.1 D;have j:o<4611686018427387904:=by simpa using q
    have F:l.length<1000000:=by simpa using C
    exact yC Se (k:=8) Tryz.isAgg51 Tryz.sizeOf51 rfl rfl (Ol Tryz.func95 (by kernel_rfl) rfl) [] Ot H i b l (Q5 l) o E u v (Zm w) (NS p) j (by omega)
     (fun x c y e=>Ck (a x c) (a y e)) (fun _ _=>Ak) (fun x c y e z r=>ub (a x c) (a y e) (a z r)) (fun x c y e z r=>Aj (a x c) (a y e) (a z r)) (fun x c y e=>pj (a x c) (a y e)) (mO a) (ik a)
   ·cases f
  ·cases f
 ·rename_i o g;simp only[Za,Zn]at h;obtain⟨rfl,rfl⟩:=h;exact sR Se rfl o _ H
 ·cases h
theorem yD:l9 Tryz.prog 140:=Ol Tryz.func140 (by kernel_rfl) rfl
theorem AE:Wu Tryz.prog C5:=by
 refine⟨(fun _ _ _ h=>by cases h),fun f args H d b h=> ?_,(fun _ _ _ h=>by cases h)⟩;simp only[C5]at h;cases a:Nat.beq f 150 with
 |true=>
  obtain rfl:=Zm a;exact⟨vi h,Bz⟩
 |false=>
  rw[a,cond_false]at h;obtain⟨a,h⟩:=XX h;obtain rfl:=Zm a;exact⟨qG h,yD⟩
theorem C0:∀f a,XV f=some a->QZ Tryz.prog f a:=pY _ Fp
theorem Er (K:Nat):Nk C5 (lift XV K C5):=by
 refine⟨rfl,(fun _ _ _ h=>by cases h),fun f a H r h=> ?_,rfl⟩;have c:=h;simp only[C5]at h;cases b:Nat.beq f 150 with
 |true=>
  obtain rfl:=Zm b;exact c
 |false=>
  rw[b,cond_false]at h;obtain⟨b,h⟩:=XX h;obtain rfl:=Zm b;exact c
noncomputable def Bs:Xr:=⟨C5,XV,Er⟩
theorem Ew:Ei Bs:=⟨⟨rfl,fun _ _ h=>h⟩,fun _ _ _ h=>yE h⟩
theorem FE (K n:Nat):Wu Tryz.prog (Bs.E K n):=tO FQ XV C0 K _ AE n
def CR:List PL->Option (List (List PV))
 |[.ref [.int .i64 (.ofNat n)]]=>bif Nat.blt n 1000000 then some (AJ n)else none
 |_=>none
def E0:Xb:=⟨md,fun _ _=>none,
 fun f args H=>bif Nat.beq f 91 then Rr args H
  else C5.heap f args H,
 fun f caps=>bif Nat.beq f 99 then CR caps else none⟩
theorem FB:Wu Tryz.prog E0:=by
 refine⟨(fun _ _ _ h=>by cases h),fun f args H d c h=> ?_,fun f b g h=> ?_⟩
 ·simp only[E0]at h;cases a:Nat.beq f 91 with
  |true=>
   obtain rfl:=Zm a;rw[a,cond_true]at h;exact uz FQ Ew FE Dh args H d c h
  |false=>
   rw[a,cond_false]at h;exact AE.heap _ _ _ _ _ h
 ·simp only[E0]at h;obtain⟨a,h⟩:=XX h;obtain rfl:=Zm a;clear a;unfold CR at h;split at h
  ·rename_i n _;obtain⟨e,rfl⟩:=Xw h;refine⟨qI n (by simpa using e),Ol Tryz.func99 (by kernel_rfl) rfl⟩
  ·cases h
theorem FC (K:Nat):Nk E0 (lift XV K E0):=by
 refine⟨rfl,(fun _ _ _ h=>by cases h),fun f a H r h=> ?_,rfl⟩;have c:=h;simp only[E0]at h;cases b:Nat.beq f 91 with
 |true=>
  obtain rfl:=Zm b;exact c
 |false=>
  rw[b,cond_false]at h;simp only[C5]at h;cases b:Nat.beq f 150 with
  |true=>
   obtain rfl:=Zm b;exact c
  |false=>
   rw[b,cond_false]at h;obtain⟨b,h⟩:=XX h;obtain rfl:=Zm b;exact c
noncomputable def BB:Xr:=⟨E0,XV,FC⟩
theorem uo:StdB BB:=⟨⟨⟨rfl,fun _ _ h=>h⟩,fun _ _ _ h=>h⟩,fun n a=>by
 show(bif Nat.blt n 1000000 then some (AJ n)else none)=some (AJ n);rw[PF a];rfl⟩
theorem Ey:pG BB:=⟨⟨rfl,fun _ _ h=>h⟩,fun _ _ _ h=>h⟩
theorem Cz:wM BB:=⟨uo,fun _ _ _ h=>h⟩
theorem FF (K n:Nat):Wu Tryz.prog (BB.E K n):=tO FQ XV C0 K _ FB n
end Go.Proofs.YtefpgecinlekpaaGreat
