/- The order of the terms of a polynomial: the comparison, the one sorted list, and what the library's sort answers. -/
import Derived.Test.YtefpgecinlekpaaGreatPol
set_option maxHeartbeats 16000000
set_option maxRecDepth 100000
namespace Go.Proofs.YtefpgecinlekpaaGreat
open Go.Ev Go.Num
theorem og {i:Nat}(h:i<256):∃b,(0::1::2::2::3::3::3::3::4::4::4::4::4::4::4::4::5::5::5::5::5::5::5::5::5::5::5::5::5::5::5::5::6::6::6::6::6::6::6::6::6::6::6::6::6::6::6::6::6::6::6::6::6::6::6::6::6::6::6::6::6::6::6::6::7::7::7::7::7::7::7::7::7::7::7::7::7::7::7::7::7::7::7::7::7::7::7::7::7::7::7::7::7::7::7::7::7::7::7::7::7::7::7::7::7::7::7::7::7::7::7::7::7::7::7::7::7::7::7::7::7::7::7::7::7::7::7::7::8::8::8::8::8::8::8::8::8::8::8::8::8::8::8::8::8::8::8::8::8::8::8::8::8::8::8::8::8::8::8::8::8::8::8::8::8::8::8::8::8::8::8::8::8::8::8::8::8::8::8::8::8::8::8::8::8::8::8::8::8::8::8::8::8::8::8::8::8::8::8::8::8::8::8::8::8::8::8::8::8::8::8::8::8::8::8::8::8::8::8::8::8::8::8::8::8::8::8::8::8::8::8::8::8::8::8::8::8::8::8::8::8::8::8::8::8::8::8::8::8::8::8::8::8::8::8::8::[]:List Nat)[i]? =some b/\b<=8:=by
 generalize a:(0::1::2::2::3::3::3::3::4::4::4::4::4::4::4::4::5::5::5::5::5::5::5::5::5::5::5::5::5::5::5::5::6::6::6::6::6::6::6::6::6::6::6::6::6::6::6::6::6::6::6::6::6::6::6::6::6::6::6::6::6::6::6::6::7::7::7::7::7::7::7::7::7::7::7::7::7::7::7::7::7::7::7::7::7::7::7::7::7::7::7::7::7::7::7::7::7::7::7::7::7::7::7::7::7::7::7::7::7::7::7::7::7::7::7::7::7::7::7::7::7::7::7::7::7::7::7::7::8::8::8::8::8::8::8::8::8::8::8::8::8::8::8::8::8::8::8::8::8::8::8::8::8::8::8::8::8::8::8::8::8::8::8::8::8::8::8::8::8::8::8::8::8::8::8::8::8::8::8::8::8::8::8::8::8::8::8::8::8::8::8::8::8::8::8::8::8::8::8::8::8::8::8::8::8::8::8::8::8::8::8::8::8::8::8::8::8::8::8::8::8::8::8::8::8::8::8::8::8::8::8::8::8::8::8::8::8::8::8::8::8::8::8::8::8::8::8::8::8::8::8::8::8::8::8::8::[]:List Nat)=L;have e:L.length=256:=by subst a;rfl
 have c:L.all (fun b=>Nat.ble b 8)=true:=by subst a;rfl
 rw[ZP]at c;have d:i<L.length:=by rw[e];exact h
 exact⟨_,Zg d,WS (c _ (YR d))⟩
theorem bQ {a:List Nat}{i b:Nat}(c:a[i]? =some b)(k:IntKind):VY [.one (.p (.str a)),.one (.p (.int k (.ofNat i)))]=some ⟨.one (.p (.int .u8 (.ofNat b))),[],[],[]⟩:=by
 simp only[VY,c];rfl
theorem EM (a:Nat):Qr .u64 (.ofNat a) (.ofNat 8)=some (.p (.int .u64 (.ofNat (a / 256)))):=rfl
theorem wrap_u8 {a:Nat}(h:a<256):Xe .u8 (.ofNat a)=.ofNat a:=by
 show Int.ofNat (a%256)=_;rw[Zf h]
theorem S1 {B:Xr}(d:Std B){n:Nat}(v:n<65536):∃l,l<100/\Xs B 141 [.one (.int .u64 (.ofNat n))] (.one (.int .i64 (.ofNat l))):=by
 have key:∃l,l<100/\Xs B 169 [.one (.int .u64 (.ofNat n))] (.one (.int .i64 (.ofNat l))):=by
  have p:¬4294967296<=n:=by omega
  have q:¬65536<=n:=by omega
  by_cases r:256<=n
  ·obtain⟨b,g,j⟩:=og (i:=n / 256) (by omega);have e:Xe .i64 (.ofNat b)=.ofNat b:=wrap_i64 (by omega);have o:Xe .i64 (.ofNat (8+b))=.ofNat (8+b):=wrap_i64 (by omega);have f:Xe .u8 (.ofNat (n / 256))=.ofNat (n / 256):=wrap_u8 (by omega);refine⟨8+b,by omega,Xs.of (d.X6 _ _ rfl) (d.Xi.mono fun E K c=> ?_)⟩;have k:∀a,XG E .Tg a=false:=fun _=>rfl
   have u:Xk E .Tg=false:=rfl;have m:∀(b:Nat) (a:List DV) (h:HF) (n:Nat),Wc E b .Tg a h n=VY a:=fun _ _ _ _=>rfl
   simp only[Xp,Xq,k,m,reduceIte,Nat.reduceEqDiff,Nat.reduceLeDiff,x169,p,q,r,EM,bQ g,e,o,f,w1]
  ·obtain⟨b,g,j⟩:=og (i:=n) (by omega);have e:Xe .i64 (.ofNat b)=.ofNat b:=wrap_i64 (by omega);have o:Xe .i64 (.ofNat (0+b))=.ofNat b:=by rw[Z4];exact wrap_i64 (by omega)
   have f:Xe .u8 (.ofNat n)=.ofNat n:=wrap_u8 (by omega);refine⟨b,by omega,Xs.of (d.X6 _ _ rfl) (d.Xi.mono fun E K c=> ?_)⟩;have k:∀a,XG E .Tg a=false:=fun _=>rfl
   have u:Xk E .Tg=false:=rfl;have m:∀(b:Nat) (a:List DV) (h:HF) (n:Nat),Wc E b .Tg a h n=VY a:=fun _ _ _ _=>rfl
   simp only[Xp,Xq,k,m,reduceIte,Nat.reduceEqDiff,Nat.reduceLeDiff,x169,p,q,r,bQ g,e,f]
 obtain⟨l,t,s⟩:=key;refine⟨l,t,Xs.of (d.X6 _ _ rfl) ((s.Xi.and d.Xi).mono fun E K ⟨e1,c⟩=> ?_)⟩;simp only[Xp,Xq,reduceIte,Nat.reduceEqDiff,Nat.reduceLeDiff,x141,c,XW,e1]
theorem ij {B:Xr}(a:Std B){x y z u x2 y2 z2 u2:PL}{m n:List Nat}(c:m.length=8)(d:n.length=8):
  Xs B 134 [.agg (x::y::z::u::mo m),.agg (x2::y2::z2::u2::mo n)] (.one (.int .i64 (Wj n m))):=by
 have e:=Qa a d c;have f:(Xm m).take 8=Xm m:=Zb (by rw[Xa];omega);have g:(Xm n).take 8=Xm n:=Zb (by rw[Xa];omega);refine Xs.of (a.X6 _ _ rfl) ((e.Xi.and a.Xi).mono fun E K ⟨e1,b⟩=> ?_);simp only[Xp,Xq,VN,reduceIte,Nat.reduceEqDiff,Nat.reduceLeDiff,Nat.reduceAdd,x134,b,XW,e1,XS,Xa,c,d,f,g,XK,XN]
def kX:PL->Option Nat
 | .int .i64 (.ofNat n)=>bif Nat.ble n 65535 then some n else none
 |_=>none
def qQ (c:List PL):Option (List Nat):=match c with
 |_::_::_::_::m=>bif Nat.beq m.length 8 then Xt kX m else none
 |_=>none
def V0 (c:List PL):List Nat:=(qQ c).getD []
def isTerm (c:List PL):Bool:=(qQ c).isSome
theorem vy {l:PL}{n:Nat}(h:kX l=some n):l=.int .i64 (.ofNat n)/\n<=65535:=by
 unfold kX at h;split at h
 ·obtain⟨a,rfl⟩:=Xw h;exact⟨rfl,WS a⟩
 ·cases h
theorem kW:∀{l:List PL} {m:List Nat},Xt kX l=some m->l=mo m/\∀e∈m,e<=65535
 |[],m,h=>by cases h;exact⟨rfl,fun _ h=>by cases h⟩
 |x::l,m,h=>by
  simp only[Xt]at h;split at h
  ·cases h
  ·rename_i n f;split at h
   ·cases h
   ·rename_i g b;cases h;obtain⟨rfl,c⟩:=vy f;obtain⟨rfl,d⟩:=kW b;refine⟨rfl,fun e a=> ?_⟩;rcases Zk.1 a with rfl|a
    ·exact c
    ·exact d e a
theorem lh:∀{m:List Nat},(∀e∈m,e<=65535)->Xt kX (mo m)=some m
 |[],_=>rfl
 |e::m,h=>by
  have a:=lh (m:=m) fun x b=>h x (Zc _ b)
  unfold mo at a;have :Nat.ble e 65535=true:=Qf (h e (Ze ..));simp only[mo,Zw,Xt,kX,this,cond_true,a]
theorem vE {c:List PL}{m:List Nat}(h:qQ c=some m):∃x y z u,c=x::y::z::u::mo m/\XL m:=by
 unfold qQ at h;split at h
 ·rename_i x y z u l;obtain⟨a,b⟩:=XX h;obtain⟨rfl,d⟩:=kW b;refine⟨x,y,z,u,rfl,?_,d⟩;have:=Zm a;simpa[mo]using this
 ·cases h
theorem OO {x y z u:PL}{m:List Nat}(h:XL m):qQ (x::y::z::u::mo m)=some m:=by
 have a:Nat.beq (mo m).length 8=true:=by rw[Xy,h.1];rfl
 simp only[qQ,a,cond_true,lh h.2]
theorem Wp {c:List PL}(h:isTerm c=true):∃x y z u,c=x::y::z::u::mo (V0 c)/\XL (V0 c):=by
 unfold isTerm at h;obtain⟨m,a⟩:=Option.isSome_iff_exists.1 h;unfold V0;rw[a];exact vE a
theorem vF {x y z u:PL}{m:List Nat}(h:XL m):V0 (x::y::z::u::mo m)=m:=by
 unfold V0;rw[OO h];rfl
def Ra (x y:List PL):Int:=Wj (V0 y) (V0 x)
def isNeg:Int->Bool
 | .negSucc _=>true
 |_=>false
theorem OT (z:Int):isNeg z=true↔z<0:=by
 cases z with
 |ofNat n=>simp[isNeg]
 |negSucc n=>simp only[isNeg,true_iff];omega
theorem Px {m n:List Nat}:Wj m n<0↔Wj m n=.negSucc 0:=by
 rcases WA m n with h|h|h<;>rw[h]<;>decide
theorem Sy:∀(m n:List Nat),Wj n m=.negSucc 0↔Wj m n=.ofNat 1
 |[],[]=>by simp[Wj]
 |[],_::_=>by simp[Wj]
 |_::_,[]=>by simp[Wj]
 |a::m,b::n=>by
  simp only[Wj];by_cases d:b<a
  ·have c:¬a<b:=by omega
   simp[d,c]
  ·by_cases c:a<b
   ·simp[d,c]
   ·simp only[d,c,if_false];exact Sy m n
theorem Pw:∀{l m n:List Nat},l.length=m.length->m.length=n.length->Wj l m=.ofNat 1->Wj m n=.ofNat 1->Wj l n=.ofNat 1
 |[],_,_,_,_,h,_=>by simp[Wj]at h
 |_::_,[],_,h,_,_,_=>by simp at h
 |_::_,_::_,[],_,h,_,_=>by simp at h
 |a::l,b::m,c::n,h1,h2,h3,h4=>by
  simp only[Wj]at h3 h4⊢;by_cases d:a<b
  ·simp[d]at h3
  ·by_cases e:b<c
   ·simp[e]at h4
   ·by_cases f:b<a
    ·have :c<a:=by omega
     have :¬a<c:=by omega
     simp[*]
    ·by_cases g:c<b
     ·have :c<a:=by omega
      have :¬a<c:=by omega
      simp[*]
     ·simp only[d,f,if_false]at h3;simp only[e,g,if_false]at h4;have :¬a<c:=by omega
      have :¬c<a:=by omega
      simp only[*,if_false];exact Pw (by simpa using h1) (by simpa using h2) h3 h4
def ins (c:List PL):List (List PL)->List (List PL)
 |[]=>[c]
 |d::ds=>bif isNeg (Ra d c)then d::ins c ds else c::d::ds
def Tf:List (List PL)->List (List PL)
 |[]=>[]
 |c::cs=>ins c (Tf cs)
theorem fR (c:List PL):∀a,(ins c a).Perm (c::a)
 |[]=>.refl _
 |d::a=>by
  unfold ins;cases isNeg (Ra d c)with
  |true=>exact((fR c a).cons d).trans (.swap ..)
  |false=>exact .refl _
theorem Uk:∀a,(Tf a).Perm a
 |[]=>.refl _
 |c::a=>(fR c _).trans ((Uk a).cons c)
def Ti (cs:List (List PL)):Prop:=∀c∈cs,isTerm c=true
theorem Ai {x:List PL}:¬Ra x x<0:=by
 unfold Ra;rw[U0];decide
theorem ua {x y z:List PL}(c:isTerm x=true)(d:isTerm y=true)(e:isTerm z=true)(a:Ra x y<0)(b:Ra y z<0):Ra x z<0:=by
 obtain⟨_,_,_,_,-,f,-⟩:=Wp c;obtain⟨_,_,_,_,-,g,-⟩:=Wp d;obtain⟨_,_,_,_,-,h,-⟩:=Wp e;unfold Ra at *;rw[Px,Sy]at *;exact Pw (by omega) (by omega) a b
theorem ph {x y:List PL}(c:isTerm x=true)(d:isTerm y=true)(a:¬Ra x y<0)(b:¬Ra y x<0):V0 x=V0 y:=by
 obtain⟨_,_,_,_,-,e,-⟩:=Wp c;obtain⟨_,_,_,_,-,f,-⟩:=Wp d;unfold Ra at *;rw[Px]at a b;rw[Sy]at a;rcases WA (V0 x) (V0 y)with h|h|h
 ·exact absurd h a
 ·exact absurd h b
 ·exact VQ (by omega) h
theorem Ah {x y z:List PL}(d:isTerm x=true)(f:isTerm y=true)(h:isTerm z=true)(g:¬Ra x y<0)(b:¬Ra y z<0):¬Ra x z<0:=by
 intro a;by_cases c:Ra y x<0
 ·exact b (ua f d h c a)
 ·have e:=ph d f g c;exact b (by unfold Ra at a⊢;rw[<-e];exact a)
theorem fQ {c:List PL}(i:isTerm c=true):∀{b:List (List PL)},Ti b->b.Pairwise (fun x y=>¬Ra y x<0)->(ins c b).Pairwise fun x y=>¬Ra y x<0
 |[],_,_=>by simp[ins]
 |d::b,l,h=>by
  have j:=l d (Ze ..);have f:Ti b:=fun x a=>l x (Zc _ a)
  obtain⟨k,m⟩:=Zr.1 h;unfold ins;cases g:isNeg (Ra d c)with
  |true=>
   rw[OT]at g;refine Zr.2 ⟨fun x a=> ?_,fQ i f m⟩;rcases Zk.1 ((fR c b).mem_iff.1 a)with rfl|a
   ·intro n;exact Ai (ua j i j g n)
   ·exact k x a
  |false=>
   have e:¬Ra d c<0:=fun q=>by rw[<-OT]at q;rw[q]at g;cases g
   refine Zr.2 ⟨fun x a=> ?_,h⟩;rcases Zk.1 a with rfl|a
   ·exact e
   ·exact Ah (f x a) j i (k x a) e
theorem cU {a:List (List PL)}(h:Ti a):Ti (Tf a):=fun c b=>h c ((Uk a).mem_iff.1 b)
theorem Rj:∀{a:List (List PL)},Ti a->(Tf a).Pairwise fun x y=>¬Ra y x<0
 |[],_=>.nil
 |c::a,h=>fQ (h c (Ze ..)) (cU fun x b=>h x (Zc _ b)) (Rj fun x b=>h x (Zc _ b))
def ia (cs:List (List PL)):Prop:=∀x∈cs,∀y∈cs,V0 x=V0 y->x=y
theorem lz {a b:List (List PL)}(h:Ti a)(k:ia a)(f:b.Perm a):Tf b=Tf a:=by
 have l:Ti b:=fun c j=>h c (f.mem_iff.1 j)
 refine List.Perm.eq_of_pairwise (le:=fun x y=>¬Ra y x<0) (fun x y m n g i=> ?_) (Rj l) (Rj h) ((Uk b).trans (f.trans (Uk a).symm));have d:=f.mem_iff.1 ((Uk b).mem_iff.1 m);have e:=(Uk a).mem_iff.1 n;exact k x d y e (ph (h x d) (h y e) i g)
def AH:DL->Option PL
 | .p l=>some l
 |_=>none
theorem kr:∀(l:List PL),Xt AH (l.map DL.p)=some l
 |[]=>rfl
 |x::l=>by simp only[Zw,Xt,AH,kr l]
theorem kq:∀(a:List (List PL)),Xt (Xt AH) (pc a)=some a
 |[]=>rfl
 |e::a=>by
  have:=kq a;unfold pc at this;simp only[pc,Zw,Xt,kr,this]
theorem ku:∀{l:List DL} {r:List PL},Xt AH l=some r->l=r.map DL.p
 |[],r,h=>by cases h;rfl
 |x::l,r,h=>by
  simp only[Xt]at h;split at h
  ·cases h
  ·rename_i y b;split at h
   ·cases h
   ·rename_i c a;cases h;rw[ku a];cases x<;>simp[AH]at b;subst b;rfl
theorem NS:∀{l:List (List DL)} {r:List (List PL)},Xt (Xt AH) l=some r->l=pc r
 |[],r,h=>by cases h;rfl
 |x::l,r,h=>by
  simp only[Xt]at h;split at h
  ·cases h
  ·rename_i y b;split at h
   ·cases h
   ·rename_i c a;cases h;rw[NS a,ku b];rfl
def UM:List (List PL)->Bool
 |[]=>true
 |c::cs=>cs.all (fun d=> !(gw Nat.beq (V0 c) (V0 d)))&&UM cs
theorem bY:∀(m:List Nat),gw Nat.beq m m=true
 |[]=>rfl
 |a::m=>by simp[gw,bY m]
theorem Su:∀{a:List (List PL)},UM a=true->ia a
 |[],_=>fun _ h=>by cases h
 |c::a,h=>by
  simp only[UM,Zp,ZP,Yx]at h;obtain⟨b,f⟩:=h;have k:=Su f;have key:∀d∈a,V0 c≠V0 d:=by
   intro d g e;have:=b d g;rw[e,bY]at this;cases this
  intro x i y j e;rcases Zk.1 i with px|px<;>rcases Zk.1 j with py|py
  ·rw[px,py]
  ·rw[px]at e;exact absurd e (key y py)
  ·rw[py]at e;exact absurd e.symm (key x px)
  ·exact k x px y py e
def fq (args:List DV)(H:List Xz):Option (DV×List Xz):=
 match args with
 |[.one (.own i XZ 0 n),.one (.p (.int .i64 (.ofNat 0))),.one (.p (.int .i64 (.ofNat n2))),.one (.p (.int .i64 (.ofNat lm))),.one (.p (.fn g []))]=>
  bif Nat.beq g 134&&Nat.blt lm 4611686018427387904 then
   match H[i]? with
   |some b=>match Xt (Xt AH) b.ch with
    |some es=>bif !b.mp&& !b.fz&&Nat.beq XZ b.XZ&&Nat.beq b.sz 12&&Nat.beq n es.length&&Nat.beq n2 es.length&&Nat.blt es.length 1000000&&es.all isTerm&&UM es then some (.XY [],H.set i {b with ch:=(Tf es).map (·.map .p)})else none
    |none=>none
   |none=>none
  else none
 |_=>none
theorem VC:∀(o:List (List Int)) (m n:List Nat),WQ o m n=.ofNat 1\/WQ o m n=.negSucc 0\/WQ o m n=.ofNat 0
 |[],m,n=>WA m n
 |r::o,m,n=>by
  simp only[WQ];by_cases a:wt r m<wt r n
  ·rw[if_pos a];exact .inr (.inl rfl)
  ·rw[if_neg a];by_cases b:wt r n<wt r m
   ·rw[if_pos b];exact .inl rfl
   ·rw[if_neg b];exact VC o m n
theorem aQ {o:List (List Int)}{m n:List Nat}:WQ o m n<0↔WQ o m n=.negSucc 0:=by
 rcases VC o m n with h|h|h<;>rw[h]<;>decide
theorem QU:∀{o:List (List Int)} {m n:List Nat},WQ o n m=.negSucc 0↔WQ o m n=.ofNat 1
 |[],m,n=>Sy m n
 |r::o,m,n=>by
  simp only[WQ];by_cases b:wt r m<wt r n
  ·have a:¬wt r n<wt r m:=by omega
   simp[b,a]
  ·by_cases a:wt r n<wt r m
   ·simp[b,a]
   ·simp only[b,a,if_false];exact QU
theorem NJ:∀{o:List (List Int)} {l m n:List Nat},l.length=m.length->m.length=n.length->WQ o l m=.ofNat 1->WQ o m n=.ofNat 1->WQ o l n=.ofNat 1
 |[],_,_,_,h1,h2,h3,h4=>Pw h1 h2 h3 h4
 |r::o,l,m,n,h1,h2,h3,h4=>by
  simp only[WQ]at h3 h4⊢;by_cases a:wt r l<wt r m
  ·simp[a]at h3
  ·by_cases b:wt r m<wt r n
   ·simp[b]at h4
   ·by_cases c:wt r m<wt r l
    ·have :wt r n<wt r l:=by omega
     have :¬wt r l<wt r n:=by omega
     simp[*]
    ·by_cases d:wt r n<wt r m
     ·have :wt r n<wt r l:=by omega
      have :¬wt r l<wt r n:=by omega
      simp[*]
     ·simp only[a,c,if_false]at h3;simp only[b,d,if_false]at h4;have :¬wt r l<wt r n:=by omega
      have :¬wt r n<wt r l:=by omega
      simp only[*,if_false];exact NJ h1 h2 h3 h4
theorem cn:∀{o:List (List Int)} {m n:List Nat},m.length=n.length->WQ o m n=.ofNat 0->m=n
 |[],_,_,h,h0=>VQ h h0
 |r::o,m,n,h,h0=>by
  simp only[WQ]at h0;by_cases a:wt r m<wt r n
  ·simp[a]at h0
  ·by_cases b:wt r n<wt r m
   ·simp[a,b]at h0
   ·simp only[a,b,if_false]at h0;exact cn h h0
def UE (o:List (List Int))(x y:List PL):Int:=WQ o (V0 y) (V0 x)
def fT (o:List (List Int))(c:List PL):List (List PL)->List (List PL)
 |[]=>[c]
 |d::ds=>bif isNeg (UE o d c)then d::fT o c ds else c::d::ds
def U8 (o:List (List Int)):List (List PL)->List (List PL)
 |[]=>[]
 |c::cs=>fT o c (U8 o cs)
variable {o:List (List Int)}
theorem bP (c:List PL):∀a,(fT o c a).Perm (c::a)
 |[]=>.refl _
 |d::a=>by
  unfold fT;cases isNeg (UE o d c)with
  |true=>exact((bP c a).cons d).trans (.swap ..)
  |false=>exact .refl _
theorem SS:∀a,(U8 o a).Perm a
 |[]=>.refl _
 |c::a=>(bP c _).trans ((SS a).cons c)
theorem pg {x:List PL}:¬UE o x x<0:=by
 unfold UE;rw[O1];decide
theorem lO {x y z:List PL}(c:isTerm x=true)(d:isTerm y=true)(e:isTerm z=true)(a:UE o x y<0)(b:UE o y z<0):UE o x z<0:=by
 obtain⟨_,_,_,_,-,f,-⟩:=Wp c;obtain⟨_,_,_,_,-,g,-⟩:=Wp d;obtain⟨_,_,_,_,-,h,-⟩:=Wp e;unfold UE at *;rw[aQ,QU]at *;exact NJ (by omega) (by omega) a b
theorem pb {x y:List PL}(c:isTerm x=true)(d:isTerm y=true)(a:¬UE o x y<0)(b:¬UE o y x<0):V0 x=V0 y:=by
 obtain⟨_,_,_,_,-,e,-⟩:=Wp c;obtain⟨_,_,_,_,-,f,-⟩:=Wp d;unfold UE at *;rw[aQ]at a b;rw[QU]at a;rcases VC o (V0 x) (V0 y)with h|h|h
 ·exact absurd h a
 ·exact absurd h b
 ·exact cn (by omega) h
theorem pd {x y z:List PL}(d:isTerm x=true)(f:isTerm y=true)(h:isTerm z=true)(g:¬UE o x y<0)(b:¬UE o y z<0):¬UE o x z<0:=by
 intro a;by_cases c:UE o y x<0
 ·exact b (lO f d h c a)
 ·have e:=pb d f g c;exact b (by unfold UE at a⊢;rw[<-e];exact a)
theorem cV {c:List PL}(i:isTerm c=true):∀{b:List (List PL)},Ti b->b.Pairwise (fun x y=>¬UE o y x<0)->(fT o c b).Pairwise fun x y=>¬UE o y x<0
 |[],_,_=>by simp[fT]
 |d::b,l,h=>by
  have j:=l d (Ze ..);have f:Ti b:=fun x a=>l x (Zc _ a)
  obtain⟨k,m⟩:=Zr.1 h;unfold fT;cases g:isNeg (UE o d c)with
  |true=>
   rw[OT]at g;refine Zr.2 ⟨fun x a=> ?_,cV i f m⟩;rcases Zk.1 ((bP c b).mem_iff.1 a)with rfl|a
   ·intro n;exact pg (lO j i j g n)
   ·exact k x a
  |false=>
   have e:¬UE o d c<0:=fun q=>by rw[<-OT]at q;rw[q]at g;cases g
   refine Zr.2 ⟨fun x a=> ?_,h⟩;rcases Zk.1 a with rfl|a
   ·exact e
   ·exact pd (f x a) j i (k x a) e
theorem lA {a:List (List PL)}(h:Ti a):Ti (U8 o a):=fun c b=>h c ((SS a).mem_iff.1 b)
theorem Qp:∀{a:List (List PL)},Ti a->(U8 o a).Pairwise fun x y=>¬UE o y x<0
 |[],_=>.nil
 |c::a,h=>cV (h c (Ze ..)) (lA fun x b=>h x (Zc _ b)) (Qp fun x b=>h x (Zc _ b))
end Go.Proofs.YtefpgecinlekpaaGreat
