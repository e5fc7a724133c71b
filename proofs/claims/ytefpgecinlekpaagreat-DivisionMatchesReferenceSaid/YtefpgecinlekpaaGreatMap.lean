/- The terms of a map, sorted: the contract. -/
import Derived.Test.YtefpgecinlekpaaGreatQDec
set_option maxHeartbeats 16000000
set_option maxRecDepth 100000
namespace Go.Proofs.YtefpgecinlekpaaGreat
open Go.Ev Go.Num
theorem nW {b c:Type}{f:b->Option c}:∀{l:List b} {r:List c},Xt f l=some r->r.length=l.length
 |[],r,h=>by cases h;rfl
 |x::l,r,h=>by
  simp only[Xt]at h;split at h
  ·cases h
  ·split at h
   ·cases h
   ·rename_i a;cases h;simp[nW a]
theorem cP {b c:Type}{f:b->Option c}:∀{l m:List b} {r q:List c},Xt f l=some r->Xt f m=some q->Xt f (l++m)=some (r++q)
 |[],m,r,q,h,k=>by cases h;simpa using k
 |x::l,m,r,q,h,k=>by
  simp only[Xt]at h;split at h
  ·cases h
  ·rename_i y d;split at h
   ·cases h
   ·rename_i e a;cases h;simp only[ZR,Xt,d,cP a k]
theorem vI {n o:Type}{f:n->Option o}{l m:List n}(w:l.Perm m):∀{r:List o},Xt f l=some r->∃q,Xt f m=some q/\r.Perm q:=by
 induction w with
 |nil=>intro r h;exact⟨r,h,.refl _⟩
 |cons x _ A=>
  intro r h;simp only[Xt]at h;split at h
  ·cases h
  ·rename_i y z;split at h
   ·cases h
   ·rename_i D i;cases h;obtain⟨q,d,e⟩:=A i;exact⟨y::q,by simp only[Xt,z,d],e.cons y⟩
 |swap x y l=>
  intro r h;simp only[Xt]at h;split at h
  ·cases h
  ·rename_i a u;split at h
   ·cases h
   ·rename_i C c;cases h;split at c
    ·cases c
    ·rename_i b v;split at c
     ·cases c
     ·rename_i p g;cases c;exact⟨b::a::p,by simp only[Xt,u,v,g],.swap ..⟩
 |trans _ _ j k=>
  intro r h;obtain⟨q,d,e⟩:=j h;obtain⟨B,s,t⟩:=k d;exact⟨B,s,e.trans t⟩
theorem wc {c:List DL}{t:List PL}(h:bZ c=some t):isTerm t=true:=by
 obtain⟨n,y,z,u,m,b,-,rfl,a,-,-⟩:=OY h;unfold isTerm;rw[OO a];rfl
theorem NF:∀{l:List (List DL)} {a:List (List PL)},Xt bZ l=some a->Ti a
 |[],a,h=>by cases h;exact fun _ h=>by cases h
 |c::l,a,h=>by
  simp only[Xt]at h;split at h
  ·cases h
  ·rename_i y e;split at h
   ·cases h
   ·rename_i f d;cases h;intro x b;rcases Zk.1 b with rfl|b
    ·exact wc e
    ·exact NF d x b
theorem nR {a:List (List PL)}(b:ia a)(g:a.Nodup):UM a=true:=by
 induction a with
 |nil=>rfl
 |cons c a m=>
  obtain⟨e,i⟩:=List.nodup_cons.1 g;simp only[UM,Zp,ZP,Yx];refine⟨fun d f=> ?_,m (fun x k y l=>b x (Zc _ k) y (Zc _ l)) i⟩;cases j:gw Nat.beq (V0 c) (V0 d)with
  |false=>rfl
  |true=>
   exfalso;have :V0 c=V0 d:=ef (fun x y h=>Zm h) _ _ j;rw[b c (Ze ..) d (Zc _ f) this]at e;exact e f
theorem R9:∀{a:List (List PL)},UM a=true->a.Nodup
 |[],_=>List.nodup_nil
 |c::a,h=>by
  simp only[UM,Zp,ZP,Yx]at h;refine List.nodup_cons.2 ⟨fun b=> ?_,R9 h.2⟩;have:=h.1 c b;rw[bY]at this;cases this
theorem ju {b c:List (List PL)}(h:UM b=true)(a:c.Sublist b):UM c=true:=
 nR (fun x d y e=>Su h x (a.subset d) y (a.subset e)) (a.nodup (R9 h))
theorem fx {b c:List (List PL)}(h:UM b=true)(a:c.Perm b):UM c=true:=
 nR (fun x d y e=>Su h x (a.mem_iff.1 d) y (a.mem_iff.1 e)) (a.nodup_iff.2 (R9 h))
theorem uz {P:Program}(b2:P.follows .mixedOrders=true){B:Xr}(hB:Ei B)(hE:∀K n,Wu P (B.E K n))(hf:Az P 91 uX)(args:List DV)(H:List Xz)(d:DV)(H':List Xz)(h:Rr args H=some (d,H')):
  CH P 91 args H d H'/\l9 P 91:=by
 unfold Rr at h;split at h
 ·rename_i i;split at h
  ·rename_i b hb;obtain⟨M,h⟩:=XX h;simp only[Zp]at M;obtain⟨⟨⟨hm,c6⟩,a1⟩,hl⟩:=M;have a1:=Zm a1;have hl:b.ch.length<60000:=by
    have:=hl;rw[aS]at this;simpa using this
   split at h
   ·rename_i f D;obtain⟨c1,h⟩:=Xw h;simp only[Zn]at h;obtain⟨rfl,rfl⟩:=h;have a2:=NF D;have d0:=nW D;have hF:=(((iY hB.toStd D).and hB.toStd.Xi).and (uC hB (L:=(f.filter nz).length) (Z5 (List.length_filter_le ..) (by omega))));obtain⟨N,hN⟩:=hF;obtain⟨⟨hs,I⟩,b5⟩:=hN N N (Zh _) (Zh _);generalize b6:B.E N N=E at hs I b5;have J:Wu P E:=b6▸hE N N;have key:CH P 91 [.one (.mp 0)] [Vo b] (inj (.one (.Xv (Tf (f.filter nz))))) ([Vo b].map Vo)/\l9 P 91:=by
     have Y:(Vo b).ch=b.ch:=rfl;have Z:(Vo b).mp=true:=hm;have a7:(Vo b).fz=true:=rfl;have F:Nat.beq (Vo b).ty 1=true:=c6;have U:(Vo b).sz=8:=a1;have a5:Vo (Vo b)=Vo b:=rfl;generalize c8:Vo b=B0 at Y Z a7 F U a5;let Inv:List (List DL)->St->Prop:=fun l s=>∃T v G dn tl g,s=⟨T,B0::⟨false,v,12,pc (g.filter nz),false,63⟩::EF::G⟩/\Xh T 3=some (.one (.own 1 v 0 (g.filter nz).length))/\Xh T 10=some (.one (.ptr 2 0 0 0))/\Xt bZ dn=some g/\Xt bZ l=some tl/\(g++tl).Perm f
     have a0:∀l s,Inv l s->∀p∈QD l,∃s',TP E N uX 2 s p.1=some s'/\Inv p.2 s':=by
      rintro l s ⟨T,v,G,dn,tl,g,rfl,h3,X,a4,C,a⟩ p hp;have c2:=Np l p hp;obtain⟨q,S,b4⟩:=vI c2.symm C;obtain⟨c,l'⟩:=p;simp only[Xt]at S;split at S
      ·cases S
      ·rename_i t ht;split at S
       ·cases S
       ·rename_i a3 W;cases S;obtain⟨n,y,z,u,m,es,rfl,rfl,b3,c9,hz⟩:=OY ht;have b1:(PL.bool n::y::z::u::mo m)∈f:=a.mem_iff.1 (ZV.2 (.inr (b4.mem_iff.2 (Ze ..))));obtain⟨s0,e1,e2⟩:=hs _ b1 n y z u (mo m) rfl;have b0:(g.filter nz).length<100000:=by
         have h1:(g++tl).length=f.length:=a.length_eq;have h2:(g.filter nz).length<=g.length:=List.length_filter_le ..;simp at h1;omega
        have j:(g++[PL.bool n::y::z::u::mo m]++a3).Perm f:=by
         refine List.Perm.trans ?_ a;rw[Zq,Z1];exact(b4.symm).append_left g
        have Q:Xt bZ (dn++[Xm m++[.p (.bool n),.p y,.p z,.p u]])=some (g++[PL.bool n::y::z::u::mo m]):=cP a4 (by simp only[Xt,ht]);cases r:nz (PL.bool n::y::z::u::mo m)with
        |true=>
         rw[r]at e2;obtain⟨T',G',g1,g2,g3⟩:=xL (K:=N) I b3.1 e1 e2 (B0:=B0) (G:=G) b0 h3 X;refine⟨_,g1,T',v+1,G',_,a3,_,?_,?_,g3,Q,W,j⟩
         ·rw[List.filter_append];simp[r]
         ·rw[g2,List.filter_append];simp[r]
        |false=>
         rw[r]at e2;obtain⟨T',G',g1,g2,g3⟩:=A8 (K:=N) I b3.1 e1 e2 (B0:=B0) (G:=G) h3 X;refine⟨_,g1,T',v,G',_,a3,_,?_,?_,g3,Q,W,j⟩
         ·rw[List.filter_append];simp[r]
         ·rw[g2,List.filter_append];simp[r]
     have b8:[B0].map Vo=[B0]:=by simp[a5]
     have b9:128*b.ch.length<=lim:=by unfold lim;omega
     have a9:b.ch.length<=9223372036854775807:=by omega
     have S:Tb (Xl [B0]) [.one (.mp 0)]=some ⟨.one (.p (.int .i64 (.ofNat b.ch.length))),[],[],[0]⟩:=by
      have c4:=Zm F;have hh:Xl [B0] 0=some B0:=rfl;simp only[Tb,hh,Z,c4,Y];rfl
     have h0:XD E N 0 uX.yt ⟨Ur [.one (.mp 0)] 0,[B0].map Vo⟩=some (.normal,⟨[(2,.one (.p .XJ)),(0,.one (.mp 0))],[B0]⟩):=by
      rw[b8];simp only[Xp,uX]
     have h1:XD E N 0 uX.yr ⟨[(2,.one (.p .XJ)),(0,.one (.mp 0))],[B0]⟩=some (.normal,⟨[(3,.one (.own 1 0 0 0)),(8,.one (.own 1 0 0 0)),(7,.one (.p (.int .i64 (.ofNat b.ch.length)))),(6,.one (.mp 0)),(2,.one (.p .XJ)),(0,.one (.mp 0))],[B0,⟨false,0,12,[],false,63⟩]⟩):=by
      simp only[Xp,Xq,uX,iL,reduceIte,Nat.reduceEqDiff,Nat.reduceAdd,Zs,S,b9,a9]
     have b7:Inv b.ch ⟨(10,.one (.ptr 2 0 0 0))::(9,.one (.mp 0))::[(3,.one (.own 1 0 0 0)),(8,.one (.own 1 0 0 0)),(7,.one (.p (.int .i64 (.ofNat b.ch.length)))),(6,.one (.mp 0)),(2,.one (.p .XJ)),(0,.one (.mp 0))],[B0,⟨false,0,12,[],false,63⟩]++[⟨true,0,0,[],true,2⟩]⟩:=
      ⟨_,0,[],[],f,[],rfl,rfl,rfl,rfl,D,.refl _⟩
     obtain⟨ss,a6,w⟩:=gl Inv a0 b.ch.length b.ch _ rfl b7;refine uW E J (tV J b2) N hf [.one (.mp 0)] [B0] (.one (.Xv (Tf (f.filter nz)))) (ss:=ss) (id:=0) (b:=B0) (by simp[uX]) h0 h1 rfl rfl Z a7 F U ?_ fun s c3=> ?_
     ·rw[Y];exact a6
     ·obtain⟨T,v,G,dn,tl,g,rfl,h3,X,a4,C,a⟩:=w s c3;cases C;rw[ZN]at a;have k:(g.filter nz).Perm (f.filter nz):=a.filter nz;have R:UM (f.filter nz)=true:=ju c1 List.filter_sublist;have V:Ti (f.filter nz):=fun c M=>a2 c ((Yt.1 M).1)
      have hu:=lz V (Su R) k;generalize g.filter nz=o at k h3 hu;have A:=b5 (B0::⟨false,v,12,pc o,false,63⟩::EF::G) 1 v 63 o k.length_eq rfl (fun c M=>V c (k.mem_iff.1 M)) (fx R k);rw[hu]at A;have c0:o.length=(Tf (f.filter nz)).length:=by rw[k.length_eq,(Uk _).length_eq]
      have a8:=fun h=>Ux 5 h (Tf (f.filter nz))
      have c5:=Ui (Tf (f.filter nz)) (Zh _);rw[c0]at h3 A;unfold qn;simp only[Xp,WR,Xq,VN,uX,reduceIte,Nat.reduceEqDiff,h3,I,XW,A,Wi,Zh,c5,a8]
    refine⟨?_,key.2⟩;refine Cy key.1 hb hm ?_;have w:∀(l:List (List DL)) (f:List (List PL)),Xt bZ l=some f->∀c∈l,∀d∈c,∃l,d=DL.p l:=by
     intro l;induction l with
     |nil=>intro f _ c M;cases M
     |cons c l ih=>
      intro f h x hx d O;simp only[Xt]at h;split at h
      ·cases h
      ·rename_i y hy;split at h
       ·cases h
       ·rename_i ys c7;rcases Zk.1 hx with rfl|hx
        ·obtain⟨n,y,z,u,m,es,rfl,-,-,-,-⟩:=OY hy;rcases ZV.1 O with O|O
         ·simp only[Xm,ZH]at O;obtain⟨e,-,rfl⟩:=O;exact⟨_,rfl⟩
         ·simp only[Zk,ZX,or_false]at O;rcases O with rfl|rfl|rfl|rfl<;>exact⟨_,rfl⟩
        ·exact ih ys c7 x hx d O
    exact w _ _ D
   ·cases h
  ·cases h
 ·cases h
def NG (m:List Nat)(n y d u:PL):List DL:=Xm m++[.p n,.p y,.p d,.p u]
def Fz (c:List DL)(t:Tm):Prop:=∃n y d u,c=NG t.2 (.bool n) y (.bool d) u/\UB [.bool n,y] t.1/\UB [.bool d,u] 1/\XL t.2
abbrev PM (ch:List (List DL))(ts:List Tm):Prop:=XF Fz ch ts
def U4 (z:Int)(m:List Nat):List Tm->List Tm
 |[]=>[(z,m)]
 |t::ts=>if m=t.2 then(t.1+z,m)::ts else t::U4 z m ts
theorem cc {m:List Nat}(a:m.length=8)(n y d u:PL):(NG m n y d u).take 8=Xm m:=by
 rw[NG,YU (by rw[Xa];omega),Zb (by rw[Xa];omega)]
theorem we {m:List Nat}(a:m.length=8)(n y d u:PL):(NG m n y d u).drop 8=[.p n,.p y,.p d,.p u]:=by
 rw[NG,YI (by rw[Xa];omega),Zj (by rw[Xa];omega)];rfl
theorem vZ {m:List Nat}(l:m.length=8){ch:List (List DL)}{b:List Tm}(h:PM ch b)(f:∀t∈b,m≠t.2)(z:Int):∀k,TU .i64 8 (Xm m) ch k=some none/\U4 z m b=b++[(z,m)]:=by
 induction h with
 |nil=>intro k;exact⟨rfl,rfl⟩
 |@cons c t ch b j h p=>
  intro k;obtain⟨n,y,d,u,rfl,-,-,a⟩:=j;have e:=f t (Ze ..);obtain⟨g,i⟩:=p (fun t o=>f t (Zc _ o)) (k+1);refine⟨?_,?_⟩
  ·simp only[TU,cc a.1,Vt m t.2 (by rw[l,a.1]),decide_eq_false e,g]
  ·simp only[U4,if_neg e,i,ZR]
theorem vY {m:List Nat}(q:m.length=8){ch:List (List DL)}{f:List Tm}(h:PM ch f)(p:∃t∈f,m=t.2)(z:Int):∃i c t,ch[i]? =some c/\f[i]? =some t/\t.2=m/\Fz c t/\(∀k,TU .i64 8 (Xm m) ch k=some (some (k+i,c)))/\U4 z m f=f.set i (t.1+z,m):=by
 induction h with
 |nil=>obtain⟨t,B,-⟩:=p;cases B
 |@cons c t ch f o h C=>
  have g:=o;obtain⟨n,y,d,u,rfl,-,-,a⟩:=g;by_cases e:m=t.2
  ·refine⟨0,_,t,rfl,rfl,e.symm,o,fun k=> ?_,?_⟩
   ·simp only[TU,cc a.1,Vt m t.2 (by rw[q,a.1]),decide_eq_true e];rfl
   ·simp only[U4,if_pos e,List.set_cons_zero]
  ·obtain⟨i,c,j,r,s,v,w,x,A⟩:=C (by
    obtain⟨j,b,l⟩:=p;rcases Zk.1 b with rfl|b
    ·exact absurd l e
    ·exact⟨j,b,l⟩)
   refine⟨i+1,c,j,by simpa using r,by simpa using s,v,w,fun k=> ?_,?_⟩
   ·simp only[TU,cc a.1,Vt m t.2 (by rw[q,a.1]),decide_eq_false e,x (k+1)];rw[show k+1+i=k+(i+1)by omega]
   ·simp only[U4,if_neg e,A,YZ]
abbrev UO (ch:List (List DL)):Xz:=⟨false,0,8,ch,true,1⟩
theorem od {m:List Nat}(c:m.length=8){ch:List (List DL)}(a:TU .i64 8 (Xm m) ch 0=some none)(X:List Xz):UL 8 .i64 true [.bool false,.XJ,.bool false,.XJ] true (Xl (UO ch::X)) [.one (.mp 0),.agg (Xm m)]=
  some ⟨.XY [.agg [.p (.bool false),.p .XJ,.p (.bool false),.p .XJ],.one (.p (.bool false))],[],[],[0]⟩:=by
 have b:Wk .i64 (Xm m) (Xm m)=some true:=by rw[Vt m m rfl];simp
 have h0:Xl (UO ch::X) 0=some (UO ch):=rfl;simp only[UL,h0,NA,a,b,Xa,c];rfl
theorem oc {m:List Nat}(a:m.length=8){ch:List (List DL)}{i:Nat}{n y d u:PL}(b:TU .i64 8 (Xm m) ch 0=some (some (i,NG m n y d u)))(X:List Xz):UL 8 .i64 true [.bool false,.XJ,.bool false,.XJ] true (Xl (UO ch::X)) [.one (.mp 0),.agg (Xm m)]=
  some ⟨.XY [.agg [.p n,.p y,.p d,.p u],.one (.p (.bool true))],[],[],[0]⟩:=by
 have c:Wk .i64 (Xm m) (Xm m)=some true:=by rw[Vt m m rfl];simp
 have h0:Xl (UO ch::X) 0=some (UO ch):=rfl;simp only[UL,h0,NA,b,c,Xa,a,rn,we a];rfl
theorem mw {m:List Nat}(c:m.length=8){ch:List (List DL)}(a:TU .i64 8 (Xm m) ch 0=some none)(n y d u:PL)(X:List Xz):Vf 8 .i64 true 4 (Xl (UO ch::X)) [.one (.mp 0),.agg (Xm m),.agg [.p n,.p y,.p d,.p u]]=
  some ⟨.XY [],[],[(0,UO (ch++[NG m n y d u]))],[0]⟩:=by
 have b:Wk .i64 (Xm m) (Xm m)=some true:=by rw[Vt m m rfl];simp
 have h0:Xl (UO ch::X) 0=some (UO ch):=rfl;simp only[Vf,h0,ez,a,b,Xa,c,DV.cells];rfl
theorem mv {m:List Nat}(e:m.length=8){ch:List (List DL)}{i:Nat}{c:List DL}(a:TU .i64 8 (Xm m) ch 0=some (some (i,c)))(n y d u:PL)(X:List Xz):Vf 8 .i64 true 4 (Xl (UO ch::X)) [.one (.mp 0),.agg (Xm m),.agg [.p n,.p y,.p d,.p u]]=
  some ⟨.XY [],[],[(0,UO (ch.set i (NG m n y d u)))],[0]⟩:=by
 have b:Wk .i64 (Xm m) (Xm m)=some true:=by rw[Vt m m rfl];simp
 have h0:Xl (UO ch::X) 0=some (UO ch):=rfl;simp only[Vf,h0,ez,a,b,Xa,e,DV.cells];rfl
theorem o5 {E:Xb}{K:Nat}(e:E.mode=md){n y d u:PL}{m:List Nat}(a:m.length=8){ch:List (List DL)}(b:TU .i64 8 (Xm m) ch 0=some none)(G:List Xz):
  ∃c,VU E K x89 [.one (.mp 0),.agg [.p n,.p y,.p d,.p u],.agg (Xm m)] (UO ch::G)=some (.XY [],UO (ch++[NG m n y d u])::(G++c)):=by
 have f:(Xm m).take 8=Xm m:=Zb (by rw[Xa];omega);apply Exists.intro;simp only[Xp,WR,hS,Xq,VN,reduceIte,Nat.reduceEqDiff,Nat.reduceLeDiff,Nat.reduceAdd,x89,a,Xa,f,od a b,mw a b,Zq];rfl
theorem o0 {E:Xb}{K:Nat}(b:E.mode=md){n y d u g l c j h o e k:PL}{m:List Nat}(a:m.length=8){ch:List (List DL)}{i:Nat}(f:TU .i64 8 (Xm m) ch 0=some (some (i,NG m g l c j)))
  (r:E.pure 129 [.agg [g,l,c,j],.agg [n,y,d,u]]=some (.agg [h,o,e,k])) (G:List Xz):
  ∃q,VU E K x89 [.one (.mp 0),.agg [.p n,.p y,.p d,.p u],.agg (Xm m)] (UO ch::G)=some (.XY [],UO (ch.set i (NG m h o e k))::(G++q)):=by
 have s:(Xm m).take 8=Xm m:=Zb (by rw[Xa];omega);apply Exists.intro;simp only[Xp,WR,hS,Xq,VN,reduceIte,Nat.reduceEqDiff,Nat.reduceLeDiff,Nat.reduceAdd,x89,b,XW,a,Xa,s,oc a f,mv a f,r,Zq];rfl
theorem PM.set {ch:List (List DL)}{a:List Tm}(h:PM ch a){c:List DL}{t:Tm}(e:Fz c t):∀i,PM (ch.set i c) (a.set i t):=by
 induction h with
 |nil=>intro i;exact .nil
 |cons b d f=>
  intro i;cases i with
  |zero=>exact .cons e d
  |succ i=>exact .cons b (f i)
theorem PM.snoc {ch:List (List DL)}{a:List Tm}(h:PM ch a){c:List DL}{t:Tm}(b:Fz c t):PM (ch++[c]) (a++[t]):=XF.append h (.cons b .nil)
def C6 (E:Xb)(c:List PL)(m:List Nat)(ch ch':List (List DL)):Prop:=
 ∀G,∃G',E.heap 89 [.one (.mp 0),.agg (c.map .p),.agg (Xm m)] (UO ch::G)=some (.XY [],UO ch'::(G++G'))
theorem o6 {B:Xr}(f:Std B){ch:List (List DL)}{o:List Tm}(h:PM ch o){c:List PL}{z:Int}(Z:Cu c z){m:List Nat}(a:XL m)(hz:Sm z)(hs:∀t∈o,Sm t.1):
  ∃b,PM b (U4 z m o)/\X0 B fun E _=>C6 E c m ch b:=by
 have w:=Z;obtain⟨n,y,d,u,rfl,j,l⟩:=w;by_cases H:∃t∈o,m=t.2
 ·obtain⟨i,c,t,h1,R,S,T,U,s⟩:=vY a.1 h H z;obtain⟨I,P,D,L,rfl,q1,q2,q3⟩:=T;subst S;have q:=U 0;rw[Z4]at q;obtain⟨e,Y,x⟩:=yh f (c:=[.bool I,P,.bool D,L]) (d:=[.bool n,y,.bool d,u]) ⟨I,P,D,L,rfl,q1,q2⟩ ⟨n,y,d,u,rfl,j,l⟩ (hs t (Zt R)) hz;obtain⟨J,Q,F,O,rfl,w1,w2⟩:=x;refine⟨ch.set i (NG t.2 (.bool J) Q (.bool F) O),?_,?_⟩
  ·rw[s];exact PM.set h (t:=(t.1+z,t.2)) ⟨J,Q,F,O,rfl,w1,w2,a⟩ i
  ·obtain⟨N,W⟩:=Y.Xi;obtain⟨M,v⟩:=f.Xi;refine⟨max N M+1,fun K k V hk G=> ?_⟩;obtain⟨k,rfl⟩:∃A,k=A+1:=⟨k-1,by omega⟩;obtain⟨r,g⟩:=o0 (K:=K) (v K k (by omega) (by omega)) a.1 q (W K k (by omega) (by omega)) G;refine⟨r,?_⟩;show(match B.X 89 with
    |some C=>VU (B.E K k) K C [.one (.mp 0),.agg [.p (.bool n),.p y,.p (.bool d),.p u],.agg (Xm t.2)] (UO ch::G)
    |none=>(B.E K k).heap 89 [.one (.mp 0),.agg [.p (.bool n),.p y,.p (.bool d),.p u],.agg (Xm t.2)] (UO ch::G))=_
   rw[f.X6 89 x89 rfl];exact g
 ·have hn:∀t∈o,m≠t.2:=fun t ht e=>H ⟨t,ht,e⟩
  obtain⟨q,s⟩:=vZ a.1 h hn z 0;refine⟨ch++[NG m (.bool n) y (.bool d) u],?_,?_⟩
  ·rw[s];exact PM.snoc h (t:=(z,m)) ⟨n,y,d,u,rfl,j,l,a⟩
  ·obtain⟨M,v⟩:=f.Xi;refine⟨M+1,fun K k V hk G=> ?_⟩;obtain⟨k,rfl⟩:∃A,k=A+1:=⟨k-1,by omega⟩;obtain⟨r,g⟩:=o5 (K:=K) (n:=.bool n) (y:=y) (d:=.bool d) (u:=u) (v K k (by omega) (by omega)) a.1 q G;refine⟨r,?_⟩;show(match B.X 89 with
    |some C=>VU (B.E K k) K C [.one (.mp 0),.agg [.p (.bool n),.p y,.p (.bool d),.p u],.agg (Xm m)] (UO ch::G)
    |none=>(B.E K k).heap 89 [.one (.mp 0),.agg [.p (.bool n),.p y,.p (.bool d),.p u],.agg (Xm m)] (UO ch::G))=_
   rw[f.X6 89 x89 rfl];exact g
inductive kj (E:Xb)(c:List PL)(m:List Nat):List (List PL)->List (List DL)->List (List DL)->Prop
 |nil {ch:List (List DL)}:kj E c m [] ch ch
 |cons {x y z u r1 r2 r3 r4:PL} {k:List Nat} {qs:List (List PL)} {ch ch1 ch2:List (List DL)} (hk:XL k) (hs:XL (Xg m k)) (h1:E.pure 59 [.agg (mo m),.agg (mo k)]=some (.XY [.agg (mo (Xg m k)),.one (.int .i64 (.ofNat 0))]))
   (h2:E.pure 90 [.agg c,.agg [x,y,z,u]]=some (.agg [r1,r2,r3,r4])) (h3:C6 E [r1,r2,r3,r4] (Xg m k) ch ch1) (h:kj E c m qs ch1 ch2):kj E c m ((x::y::z::u::mo k)::qs) ch ch2
inductive gY (E:Xb)(qs:List (List PL)):List (List PL)->List (List DL)->List (List DL)->Prop
 |nil {ch:List (List DL)}:gY E qs [] ch ch
 |cons {x y z u:PL} {m:List Nat} {ps:List (List PL)} {ch ch1 ch2:List (List DL)} (hm:XL m) (h1:kj E [x,y,z,u] m qs ch ch1) (h:gY E qs ps ch1 ch2):gY E qs ((x::y::z::u::mo m)::ps) ch ch2
theorem yP {E:Xb}{K:Nat}{lp f:PL}(v:E.mode=md){a:List (List PL)}(sl:Sl f a)(hl:a.length<1000000){x y z u:PL}{m:List Nat}(t:m.length=8)(j:Nat){o1 o2:DV}:∀(rest:List (List PL)) (ch d:List (List DL)),kj E [x,y,z,u] m rest ch d->
  ∀(i k:Nat) (G:List Xz),G[j]? =some ⟨false,0,12,[.p x::.p y::.p z::.p u::Xm m],false,63⟩->a.drop i=rest->i+rest.length=a.length->rest.length<k->
  ∃c g,Xc E K 0 [1,6,8,14,15,16,20,21,22] x54_1 k ⟨[(1,.one (.p f)),(6,.one (.mp 0)),(8,.one (.ptr (j+1) 0 0 0)),(14,.one (.p lp)),(15,o1),(16,o2),(20,.one (.p f)),(21,.one (.p (.int .i64 (.ofNat a.length)))),(22,.one (.p (.int .i64 (.ofNat i))))],UO ch::G⟩=
    some (.exit 2,⟨c,UO d::g⟩)/\Xh c 1=some (.one (.p f))/\Xh c 6=some (.one (.mp 0))/\Xh c 14=some (.one (.p lp))/\Xh c 15=some o1/\Xh c 16=some o2:=by
 intro rest ch d h;induction h with
 |@nil ch=>
  intro i k G n D l q;obtain⟨k,rfl⟩:∃A,k=A+1:=⟨k-1,by omega⟩;have e:¬i<a.length:=by simp at l;omega
  apply tN
  ·rw[Xc];simp only[Xp,Xq,reduceIte,Nat.reduceEqDiff,x54_1,e];rfl
  ·simp only[Xp,reduceIte,Nat.reduceEqDiff,and_self]
 |@cons H I J F r1 r2 r3 r4 b qs ch O P q Z V W X h ih=>
  intro i k G n D l s;obtain⟨k,rfl⟩:∃A,k=A+1:=⟨k-1,by omega⟩;simp only[Zi]at l s;have e:i<a.length:=by omega
  obtain⟨U,Q⟩:=Xf D;have iq:=fun(Y:HF) (kd:IntKind)=>sl.idx (h:=Y) (k:=kd) (sz:=12) U (by simp[Xy,q.1])
  have R:Xe .i64 (.ofNat (i+1))=.ofNat (i+1):=wrap_i64 (by omega);have r:=q.1;have w:=Z.1;have t1:(Xm m).take 8=Xm m:=Zb (by rw[Xa];omega);have t2:(Xm b).take 8=Xm b:=Zb (by rw[Xa];omega);have t3:(Xm (Xg m b)).take 8=Xm (Xg m b):=Zb (by rw[Xa];omega);have d1:(Xm m).drop 8=[]:=Zj (by rw[Xa];omega);have d2:(Xm b).drop 8=[]:=Zj (by rw[Xa];omega);have d3:(Xm (Xg m b)).drop 8=[]:=Zj (by rw[Xa];omega);have o:j<G.length:=(Zd.1 n).1;have C:∀L:List Xz,(G++L)[j]? =some ⟨false,0,12,[.p x::.p y::.p z::.p u::Xm m],false,63⟩:=fun L=>by rw[ZC o];exact n
  obtain⟨M,B⟩:=X (G++[⟨false,0,12,[.p H::.p I::.p J::.p F::Xm b],false,63⟩,⟨false,0,8,[Xm (Xg m b)],false,51⟩]);simp only[Zw,ZT]at B;obtain⟨c,g,S,T⟩:=ih (i+1) k (G++([⟨false,0,12,[.p H::.p I::.p J::.p F::Xm b],false,63⟩,⟨false,0,8,[Xm (Xg m b)],false,51⟩]++M)) (C _) Q (by omega) (by omega);refine⟨c,g,?_,T⟩;have N:TZ [0,6,5,2,4,1,3] 7=true:=rfl;have n1:¬G.length+2+1<=j+1:=by omega
  have n2:¬G.length+2+1<=G.length+1:=by omega
  have n3:¬G.length+2+1<=G.length+1+1:=by omega
  rw[Xc];simp only[Xp,WR,hS,ite_self,N,n1,n2,n3,Xq,VN,reduceIte,Nat.reduceEqDiff,Nat.reduceLeDiff,Nat.reduceAdd,x54_1,e,iq,C,XS,Xa,r,w,t,t1,t2,t3,XK,XN,v,XW,V,W,B,R];rw[Zq];exact S
theorem vC {E:Xb}{K:Nat}{lp v:PL}(q:E.mode=md){a e:List (List PL)}(W:Sl lp a)(w:Sl v e)(hl:a.length<1000000)(o:e.length<1000000)(P:e.length<K):∀(rest:List (List PL)) (ch b:List (List DL)),gY E e rest ch b->
  ∀(i k:Nat) (G:List Xz),a.drop i=rest->i+rest.length=a.length->rest.length<k->
  ∃f g,Xc E K 0 [1,6,14,15,16] x54_2 k ⟨[(1,.one (.p v)),(6,.one (.mp 0)),(14,.one (.p lp)),(15,.one (.p (.int .i64 (.ofNat a.length)))),(16,.one (.p (.int .i64 (.ofNat i))))],UO ch::G⟩=
    some (.exit 0,⟨f,UO b::g⟩)/\Xh f 6=some (.one (.mp 0)):=by
 intro rest ch b h;induction h with
 |@nil ch=>
  intro i k G s l hk;obtain⟨k,rfl⟩:∃r,k=r+1:=⟨k-1,by omega⟩;have c:¬i<a.length:=by simp at l;omega
  apply tN
  ·rw[Xc];simp only[Xp,Xq,reduceIte,Nat.reduceEqDiff,x54_2,c];rfl
  ·simp only[Xp,reduceIte,Nat.reduceEqDiff]
 |@cons x y z u m ps ch j B t O h R=>
  intro i k G s l n;obtain⟨k,rfl⟩:∃r,k=r+1:=⟨k-1,by omega⟩;simp only[Zi]at l n;have c:i<a.length:=by omega
  obtain⟨N,C⟩:=Xf s;have S:=fun(Q:HF) (T:IntKind)=>W.idx (h:=Q) (k:=T) (sz:=12) N (by simp[Xy,t.1])
  have D:Xe .i64 (.ofNat (i+1))=.ofNat (i+1):=wrap_i64 (by omega);have d:=t.1;have X:(Xm m).take 8=Xm m:=Zb (by rw[Xa];omega);have Z:(Xm m).drop 8=[]:=Zj (by rw[Xa];omega);obtain⟨Y,A,F,H,I,J,L,M⟩:=yP (K:=K) (lp:=lp) q w o d G.length (o1:=.one (.p (.int .i64 (.ofNat a.length)))) (o2:=.one (.p (.int .i64 (.ofNat i)))) e ch j O 0 K (G++[⟨false,0,12,[.p x::.p y::.p z::.p u::Xm m],false,63⟩]) (by simp) (by simp) (by simp) P;obtain⟨f,g,U,V⟩:=R (i+1) k A C (by omega) (by omega);refine⟨f,g,?_,V⟩;rw[Xc];simp only[Xp,hS,Xq,VN,reduceIte,Nat.reduceEqDiff,Nat.reduceLeDiff,Nat.reduceAdd,x54_2,c,S,XS,Xa,d,X,w.len,F,H,I,J,L,M,D];exact U
structure pG (B:Xr):Prop extends Std B where
 sorted:∀args H r,Rr args H=some r->B.E0.heap 91 args H=some r
theorem gQ (z:Int)(m:List Nat)(b:List Nat->Int):∀a,pair (U4 z m a) b=pair a b+z*b m
 |[]=>by simp[U4,pair]
 |t::a=>by
  unfold U4;split
  ·rename_i e;subst e;simp only[pair];rw[Int.add_mul];omega
  ·simp only[pair,gQ z m b a];omega
theorem gR (z:Int)(m:List Nat):∀a,((U4 z m a).map (·.2))=a.map (·.2)\/(m∉a.map (·.2)/\(U4 z m a).map (·.2)=a.map (·.2)++[m])
 |[]=>.inr ⟨by simp,rfl⟩
 |t::a=>by
  unfold U4;split
  ·rename_i e;subst e;exact .inl rfl
  ·rename_i e;rcases gR z m a with h|⟨h1,h2⟩
   ·exact .inl (by simp[h])
   ·exact .inr ⟨by simp;exact⟨e,by simpa using h1⟩,by simp[h2]⟩
theorem pF {z:Int}{m:List Nat}{c:List Tm}(h:(c.map (·.2)).Nodup):((U4 z m c).map (·.2)).Nodup:=by
 rcases gR z m c with h1|⟨h1,h2⟩
 ·rw[h1];exact h
 ·rw[h2,List.nodup_append];refine⟨h,by simp,fun a f b d=> ?_⟩;simp at d;subst d;intro e;exact h1 (e▸f)
theorem gS {z:Int}{m:List Nat}{c b:Nat}(f:z.natAbs<=b):∀{d:List Tm},Bd c d->Bd (c+b) (U4 z m d)
 |[],_=>by intro t a;simp[U4]at a;subst a;simp only[];omega
 |u::d,h=>by
  have g:=h u (Ze ..);have e:Bd c d:=fun t a=>h t (Zc _ a)
  unfold U4;split
  ·intro t a;rcases Zk.1 a with rfl|a
   ·simp only[];omega
   ·have:=e t a;omega
  ·intro t a;rcases Zk.1 a with rfl|a
   ·omega
   ·exact gS f e t a
theorem j9 (z:Int)(m:List Nat):∀a:List Tm,(U4 z m a).length<=a.length+1
 |[]=>by simp[U4]
 |t::a=>by
  unfold U4;split
  ·simp
  ·have:=j9 z m a;simp;omega
def tH (z:Int)(m:List Nat):List Tm->List Tm->List Tm
 |[],acc=>acc
 |u::us,acc=>tH z m us (U4 (z*u.1) (Xg m u.2) acc)
def bJ (us:List Tm):List Tm->List Tm->List Tm
 |[],acc=>acc
 |t::ts,acc=>bJ us ts (tH t.1 t.2 us acc)
theorem oH (z:Int)(m:List Nat)(c:List Nat->Int):∀(b a:List Tm),pair (tH z m b a) c=pair a c+z*pair b fun k=>c (Xg m k)
 |[],a=>by simp[tH,pair]
 |u::b,a=>by
  simp only[tH,oH z m c b,gQ,pair];rw[Int.mul_add,Int.mul_assoc];omega
theorem jr (d:List Tm)(c:List Nat->Int):∀(b a:List Tm),pair (bJ d b a) c=pair a c+pair b fun m=>pair d fun k=>c (Xg m k)
 |[],a=>by simp[bJ,pair]
 |t::b,a=>by
  simp only[bJ,jr d c b,oH,pair];omega
theorem jF {z:Int}{m:List Nat}:∀{us a:List Tm},(a.map (·.2)).Nodup->((tH z m us a).map (·.2)).Nodup
 |[],_,h=>h
 |_::us,_,h=>jF (us:=us) (pF h)
theorem fu {b:List Tm}:∀{ts a:List Tm},(a.map (·.2)).Nodup->((bJ b ts a).map (·.2)).Nodup
 |[],_,h=>h
 |_::ts,_,h=>fu (ts:=ts) (jF h)
theorem zm {z:Int}{m:List Nat}{a b:Nat}(e:z.natAbs<=a):∀{us d:List Tm} {c:Nat},Bd b us->Bd c d->Bd (c+us.length*(a*b)) (tH z m us d)
 |[],_,_,_,h=>by simpa[tH]using h
 |u::us,d,c,hb,h=>by
  have f:(z*u.1).natAbs<=a*b:=by rw[Yg];exact Ya e (hb u (Ze ..))
  have:=zm (us:=us) (m:=m) e (fun t g=>hb t (Zc _ g)) (gS (m:=Xg m u.2) f h);simp only[tH,Zi,ZE,Z0];rw[show c+(us.length*(a*b)+a*b)=c+a*b+us.length*(a*b)by omega];exact this
theorem tG {z:Int}{m:List Nat}:∀(b a:List Tm),(tH z m b a).length<=a.length+b.length
 |[],_=>by simp[tH]
 |u::b,a=>by
  have c:=tG (z:=z) (m:=m) b (U4 (z*u.1) (Xg m u.2) a);have d:=j9 (z*u.1) (Xg m u.2) a;simp only[tH,Zi];omega
theorem Ab:∀{a:List Tm},(∀t∈a,t.1≠0)->a.Pairwise (fun t u=>Wj t.2 u.2=.ofNat 1)->EH a
 |[],_,_=>trivial
 |[t],h,_=>h t (Ze ..)
 |t::u::a,h,hp=>by
  obtain⟨b,c⟩:=Zr.1 hp;exact⟨h t (Ze ..),b u (Ze ..),Ab (fun x d=>h x (Zc _ d)) c⟩
theorem vo {c d:List Tm}(h:c.Perm d)(e:List Nat->Int):pair c e=pair d e:=by
 induction h with
 |nil=>rfl
 |cons t _ f=>simp only[pair,f]
 |swap t u l=>simp only[pair];omega
 |trans _ _ a b=>rw[a,b]
theorem P4 (b:List Nat->Int):∀a:List Tm,pair (a.filter fun t=>t.1 !=0) b=pair a b
 |[]=>rfl
 |t::a=>by
  by_cases h:t.1=0
  ·rw[YE (by simp[h])];simp only[pair,h,P4 b a];simp
  ·rw[YL (by simp[h])];simp only[pair,P4 b a]
theorem wJ {n o:Type}{R:n->o->Prop}{m d:List n}(s:d.Perm m):∀{b:List o},XF R m b->∃a,XF R d a/\a.Perm b:=by
 induction s with
 |nil=>intro b h;exact⟨b,h,.refl _⟩
 |cons x _ t=>
  intro b h;cases h with |cons i c=> ?_
  obtain⟨a,f,g⟩:=t c;exact⟨_,.cons i f,g.cons _⟩
 |swap x y l=>
  intro b h;cases h with |cons i c=> ?_
  cases c with |cons c r=> ?_
  exact⟨_,.cons c (.cons i r),.swap ..⟩
 |trans _ _ j k=>
  intro b h;obtain⟨a,f,g⟩:=k h;obtain⟨e,p,q⟩:=j f;exact⟨e,p,q.trans g⟩
theorem pC {e f:Type}{R:e->f->Prop}{p:e->Bool}{q:f->Bool}(b:∀x y,R x y->p x=q y){c:List e}{d:List f}(h:XF R c d):XF R (c.filter p) (d.filter q):=by
 induction h with
 |nil=>exact .nil
 |@cons x y c d g j i=>
  have:=b _ _ g;cases a:p x with
  |true=>rw[YL a,YL (this▸a)];exact .cons g i
  |false=>rw[YE (by simp[a]),YE (by simp[<-this,a])];exact i
theorem DO {c:List PL}{t:Tm}(h:En c t):nz c=(t.1 !=0):=by
 obtain⟨n,a,d,b,rfl,⟨q,e1,f⟩,-,-⟩:=h;simp only[ZF,PL.bool.injEq,and_true]at e1;obtain⟨-,rfl⟩:=e1;rcases f with e|⟨e,rfl⟩
 ·subst e;by_cases h0:t.1=0
  ·simp[h0,Ug,WT,nz]
  ·have :t.1.natAbs≠0:=by omega
   rw[Ut this];simp[Ug,nz,h0]
 ·have g:Xd t.1.natAbs=[]:=by simpa[Ug]using e
  have :t.1.natAbs=0:=WU.1 (by rw[g];rfl);have :t.1=0:=by omega
  simp[this,nz]
theorem zK {c:List DL}{t:Tm}(h:Fz c t):∃e,bZ c=some e/\En e t/\V0 e=t.2:=by
 obtain⟨n,y,d,u,rfl,b,i,a⟩:=h;have j:=kr (mo t.2++[PL.bool n,y,.bool d,u]);have k:NG t.2 (.bool n) y (.bool d) u=(mo t.2++[PL.bool n,y,.bool d,u]).map DL.p:=by simp[NG,Xm,mo]
 have q:(mo t.2++[PL.bool n,y,.bool d,u]).take 8=mo t.2:=by rw[YU (by rw[Xy];have:=a.1;omega),Zb (by rw[Xy];have:=a.1;omega)]
 have g:(mo t.2++[PL.bool n,y,.bool d,u]).drop 8=[.bool n,y,.bool d,u]:=by
  rw[YI (by rw[Xy];have:=a.1;omega),Zj (by rw[Xy];have:=a.1;omega)];rfl
 have l:isTerm (PL.bool n::y::.bool d::u::mo t.2)=true:=by unfold isTerm;rw[OO a];rfl
 refine⟨.bool n::y::.bool d::u::mo t.2,?_,⟨n,y,d,u,rfl,b,i,a⟩,vF a⟩;have o:y=.XJ\/∃f,y=.Xv f:=by
  obtain⟨m,e,b⟩:=b;simp only[ZF,and_true]at e;obtain⟨-,rfl⟩:=e;rcases b with e|⟨-,e⟩
  ·exact .inr ⟨_,e⟩
  ·exact .inl e
 rcases o with rfl|⟨f,rfl⟩<;>simp only[bZ,k,j,g,q,l,cond_true]
theorem zL {ch:List (List DL)}{b:List Tm}(h:PM ch b):∃a,Xt bZ ch=some a/\XF (fun c t=>En c t/\V0 c=t.2) a b:=by
 induction h with
 |nil=>exact⟨[],rfl,.nil⟩
 |cons g _ l=>
  obtain⟨a,d,f⟩:=l;obtain⟨e,i,j,k⟩:=zK g;exact⟨e::a,by simp only[Xt,i,d],.cons ⟨j,k⟩ f⟩
theorem Ad {g:List (List PL)}{f:List Tm}(h:XF (fun c t=>En c t/\V0 c=t.2) g f)(j:(f.map (·.2)).Nodup):UM g=true:=by
 induction h with
 |nil=>rfl
 |@cons c t g f m k q=>
  simp only[Zw,List.nodup_cons]at j;simp only[UM,Zp,ZP,Yx];refine⟨fun d n=> ?_,q j.2⟩;cases o:gw Nat.beq (V0 c) (V0 d)with
  |false=>rfl
  |true=>
   exfalso;have e:V0 c=V0 d:=ef (fun x y h=>Zm h) _ _ o;obtain⟨i,l⟩:=ZM.1 n;have b:i<f.length:=by rw[<-k.length];exact(Zd.1 l).1
   obtain⟨r,a,-,p⟩:=k.get i _ (Zg b);rw[l]at a;cases a;refine j.1 (ZH.2 ⟨f[i],YR b,?_⟩);rw[<-p,<-e,m.2]
theorem kB {ch:List (List DL)}{k:List Tm}(h:PM ch k)(R:(k.map (·.2)).Nodup)(Y:k.length<60000):
  ∃J l,(∀G,Rr [.one (.mp 0)] (UO ch::G)=some (.one (.p (.Xv J)),(UO ch::G).map Vo))/\dw J l/\EH l/\l.Perm (k.filter fun t=>t.1 !=0):=by
 obtain⟨j,F,z⟩:=zL h;have m:=Ad z R;have D:=NF F;have P:j.length=k.length:=z.length;have I:ch.length=k.length:=h.length;have N:=pC (p:=nz) (q:=fun t=>t.1 !=0) (fun c t A=>DO A.1) z;obtain⟨l,v,w⟩:=wJ (Uk (j.filter nz)) N;have B:Nat.blt ch.length 60000=true:=PF (by omega);have n:=ju m (List.filter_sublist (p:=nz));have g:Ti (j.filter nz):=fun c A=>D c (Yt.1 A).1
 have o:=Rj g;have a:=fx n (Uk _);have b:=cU g;refine⟨Tf (j.filter nz),l,fun G=> ?_,v.imp fun _ _ h=>h.1,?_,w⟩
 ·have h0:(UO ch::G)[0]? =some (UO ch):=rfl;simp only[Rr,h0,YG,B,F,m,YT,cond_true];rfl
 ·refine Ab (fun t S=>by simpa using(Yt.1 (w.mem_iff.1 S)).2) ?_;have f:(Tf (j.filter nz)).Pairwise fun x y=>V0 x≠V0 y:=by
   have H:=R9 a;have M:=Su a;rw[List.nodup_iff_pairwise_ne]at H;exact H.imp_of_mem fun r s C e=>C (M _ r _ s e)
  have d:(Tf (j.filter nz)).Pairwise fun x y=>Wj (V0 x) (V0 y)=.ofNat 1:=by
   refine(o.and f).imp_of_mem fun{x y} r s ⟨K,L⟩=> ?_
   rcases WA (V0 x) (V0 y)with h|h|h
   ·exact h
   ·exact absurd (show Ra y x<0 by unfold Ra;rw[Px];exact h) K
   ·exfalso;obtain⟨_,_,_,_,-,Z,-⟩:=Wp (b x r);obtain⟨_,_,_,_,-,l2,-⟩:=Wp (b y s);exact L (VQ (by omega) h)
  clear o f w a b;generalize Tf (j.filter nz)=X at v d;induction v with
  |nil=>exact .nil
  |@cons x t X l r E U=>
   obtain⟨V,W⟩:=Zr.1 d;refine Zr.2 ⟨fun u T=> ?_,U W⟩;obtain⟨i,O⟩:=ZM.1 T;obtain⟨y,s,-,Q⟩:=E.get i u O;have:=V y (Zt s)
   rwa[r.2,Q]at this
theorem Bd.sm {b:Nat}(d:b<4294967296){a:List Tm}(h:Bd b a):∀t∈a,Sm t.1:=fun t c=>mg.sm (by have:=h t c;unfold mg;omega)
theorem vD {B:Xr}(p:Std B){c:List PL}{z:Int}(T:Cu c z){m:List Nat}(U:XL m){a b:Nat}(W:z.natAbs<=a)(ha:a<65536)(S:b<65536):∀{n:List (List PL)} {i:List Tm},dw n i->Bd b i->(∀u∈i,XL (Xg m u.2))->
  ∀{ch:List (List DL)} {f:List Tm} {d:Nat},PM ch f->Bd d f->d+i.length*(a*b)<4294967296->∃j,PM j (tH z m i f)/\X0 B fun E _=>kj E c m n ch j:=by
 intro n i h;induction h with
 |nil=>intro _ _ ch f d s _ _;exact⟨ch,s,X0.of fun _ _=>.nil⟩
 |@cons q u n i V h X=>
  intro F H ch f d s G l;have C:=V;obtain⟨x,y,w,v,rfl,Y,Z,I⟩:=C;have r:=F u (Ze ..);have g:=H u (Ze ..);simp only[Zi,ZE,Z0]at l;have D:(z*u.1).natAbs<=a*b:=by rw[Yg];exact Ya W r
  have M:=P6 p U I g;obtain⟨e,N,k⟩:=yf p T (d:=[.bool x,y,.bool w,v]) ⟨x,y,w,v,rfl,Y,Z⟩ (mg.sm (by unfold mg;omega)) (mg.sm (by unfold mg;omega));obtain⟨J,O,P⟩:=o6 p s k g (mg.sm (by unfold mg;omega)) (Bd.sm (by omega) G);obtain⟨o,Q,R⟩:=X (fun t A=>F t (Zc _ A)) (fun t A=>H t (Zc _ A)) O (gS (m:=Xg m u.2) D G) (by omega);obtain⟨r1,r2,r3,r4,rfl,-,-⟩:=k;exact⟨o,Q,(R.and (P.and (M.Xi.and N.Xi))).mono fun E K ⟨e1,e2,e3,L⟩=>.cons I g e3 L e2 e1⟩
theorem qP {B:Xr}(P:Std B){H:List (List PL)}{f:List Tm}(Q:dw H f){a b:Nat}(D:Bd b f)(q:a<65536)(r:b<65536):∀{n:List (List PL)} {e:List Tm},dw n e->Bd a e->(∀t∈e,∀u∈f,XL (Xg t.2 u.2))->
  ∀{ch:List (List DL)} {acc:List Tm} {d:Nat},PM ch acc->Bd d acc->d+e.length*(f.length*(a*b))<4294967296->
  ∃g,PM g (bJ f e acc)/\Bd (d+e.length*(f.length*(a*b))) (bJ f e acc)/\X0 B fun E _=>gY E H n ch g:=by
 intro n e h;induction h with
 |nil=>intro _ _ ch acc d z l _;exact⟨ch,z,by simpa[bJ]using l,X0.of fun _ _=>.nil⟩
 |@cons p t n e j h R=>
  intro C F ch acc d z l i;have A:=j;obtain⟨x,y,w,v,rfl,S,T,G⟩:=A;have k:=C t (Ze ..);simp only[Zi,ZE,Z0]at i⊢;obtain⟨I,J,L⟩:=vD P (c:=[.bool x,y,.bool w,v]) ⟨x,y,w,v,rfl,S,T⟩ G k q r Q D (F t (Ze ..)) z l (by omega);have s:=zm (m:=t.2) k D l;obtain⟨o,M,N,O⟩:=R (fun t j=>C t (Zc _ j)) (fun t j=>F t (Zc _ j)) J s (by omega);refine⟨o,M,?_,(O.and L).mono fun E K ⟨e1,e2⟩=>.cons G e2 e1⟩;rw[show d+(e.length*(f.length*(a*b))+f.length*(a*b))=d+f.length*(a*b)+e.length*(f.length*(a*b))by omega];exact N
theorem nM {us:List Tm}:∀(b a:List Tm),(bJ us b a).length<=a.length+b.length*us.length
 |[],_=>by simp[bJ]
 |t::b,a=>by
  have c:=nM (us:=us) b (tH t.1 t.2 us a);have d:=tG (z:=t.1) (m:=t.2) us a;simp only[bJ,Zi,ZE,Z0];omega
theorem nI {B:Xr}(k:pG B){lp lq:PL}{ts us:List Tm}(M:C3 lp ts)(N:C3 lq us){a b:Nat}(J:Bd a ts)(L:Bd b us)(l:a<65536)(m:b<65536)(P:∀t∈ts,∀u∈us,XL (Xg t.2 u.2))(v:ts.length*(us.length*(a*b))<4294967296)(X:ts.length*us.length<60000)(Y:ts.length<1000)(Z:us.length<1000):
  ∃j c,Xs B 54 [.one lp,.one lq] (.XY [.one (.Xv j),.one (.int .i64 (.ofNat 0))])/\dw j c/\EH c/\c.Perm ((bJ us ts []).filter fun t=>t.1 !=0)/\Bd (ts.length*(us.length*(a*b))) c:=by
 obtain⟨w,x,g⟩:=M;obtain⟨S,T,i⟩:=N;have y:=g.length;have z:=i.length;obtain⟨ch,F,H,I⟩:=qP k.toStd i L l m g J P (ch:=[]) (acc:=[]) (d:=0) .nil (fun _ h=>by cases h) (by omega);have e:=nM (us:=us) ts [];have q:((bJ us ts []).map (·.2)).Nodup:=fu (by simp);obtain⟨j,c,A,C,D,s⟩:=kB F q (by simp at e;omega);have r:X0 B fun E _=>∀G,E.heap 91 [.one (.mp 0)] (UO ch::G)=some (.one (.p (.Xv j)),(UO ch::G).map Vo):=by
  exact⟨0,fun K n _ _ G=>(B.Cv (K:=0) (n:=0) (Zs K) (Zs n)).heap _ _ _ _ (k.sorted _ _ _ (A G))⟩
 refine⟨j,c,Xs.of (k.toStd.X6 _ _ rfl) ((I.and (r.and (k.toStd.Xi.and (X0.ge (w.length+S.length+1))))).mono fun E K ⟨e1,e2,f,W⟩=> ?_),C,D,s,?_⟩
 ·obtain⟨V,U,Q,R⟩:=vC (K:=K) f x T (by omega) (by omega) (by omega) w [] ch e1 0 K [] (by simp) (by simp) (by omega);have o:TA 8 true 0 []=some ⟨.one (.mp 0),[UO []],[],[]⟩:=rfl;simp only[Xp,WR,Xq,o,reduceIte,Nat.reduceEqDiff,Nat.reduceLeDiff,Nat.reduceAdd,x54,x.len,Q,R,e2,f,XW]
 ·intro t O;have:=H t (Yt.1 (s.mem_iff.1 O)).1;omega
end Go.Proofs.YtefpgecinlekpaaGreat
