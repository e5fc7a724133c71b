/- The order of the terms of a polynomial: the comparison, the one sorted list, and what the library's sort answers. -/
import Derived.Test.YtidginchkjhobaaGreatPol
set_option maxHeartbeats 16000000
set_option maxRecDepth 100000
namespace Go.Ev
open Go.Proofs.YtidginchkjhobaaGreat
theorem tX {i}(h:i<256):∃b,(0::1::2::2::3::3::3::3::4::4::4::4::4::4::4::4::5::5::5::5::5::5::5::5::5::5::5::5::5::5::5::5::6::6::6::6::6::6::6::6::6::6::6::6::6::6::6::6::6::6::6::6::6::6::6::6::6::6::6::6::6::6::6::6::7::7::7::7::7::7::7::7::7::7::7::7::7::7::7::7::7::7::7::7::7::7::7::7::7::7::7::7::7::7::7::7::7::7::7::7::7::7::7::7::7::7::7::7::7::7::7::7::7::7::7::7::7::7::7::7::7::7::7::7::7::7::7::7::8::8::8::8::8::8::8::8::8::8::8::8::8::8::8::8::8::8::8::8::8::8::8::8::8::8::8::8::8::8::8::8::8::8::8::8::8::8::8::8::8::8::8::8::8::8::8::8::8::8::8::8::8::8::8::8::8::8::8::8::8::8::8::8::8::8::8::8::8::8::8::8::8::8::8::8::8::8::8::8::8::8::8::8::8::8::8::8::8::8::8::8::8::8::8::8::8::8::8::8::8::8::8::8::8::8::8::8::8::8::8::8::8::8::8::8::8::8::8::8::8::8::8::8::8::8::8::8::[]:P')[i]? =some b/\b<=8:=by
 generalize a:(0::1::2::2::3::3::3::3::4::4::4::4::4::4::4::4::5::5::5::5::5::5::5::5::5::5::5::5::5::5::5::5::6::6::6::6::6::6::6::6::6::6::6::6::6::6::6::6::6::6::6::6::6::6::6::6::6::6::6::6::6::6::6::6::7::7::7::7::7::7::7::7::7::7::7::7::7::7::7::7::7::7::7::7::7::7::7::7::7::7::7::7::7::7::7::7::7::7::7::7::7::7::7::7::7::7::7::7::7::7::7::7::7::7::7::7::7::7::7::7::7::7::7::7::7::7::7::7::8::8::8::8::8::8::8::8::8::8::8::8::8::8::8::8::8::8::8::8::8::8::8::8::8::8::8::8::8::8::8::8::8::8::8::8::8::8::8::8::8::8::8::8::8::8::8::8::8::8::8::8::8::8::8::8::8::8::8::8::8::8::8::8::8::8::8::8::8::8::8::8::8::8::8::8::8::8::8::8::8::8::8::8::8::8::8::8::8::8::8::8::8::8::8::8::8::8::8::8::8::8::8::8::8::8::8::8::8::8::8::8::8::8::8::8::8::8::8::8::8::8::8::8::8::8::8::8::[]:P')=L;have d:L.length=256:=by subst a;rfl
 have c:L.all (fun b=>Nat.ble b 8)=true:=by subst a;rfl
 simp_all
theorem eT {a}{i b}(c:a[i]? =some b)(k):Uo [La4 (.str a),La4 (.int k (.ofNat i))]=some ⟨La4 (.int .u8 (.ofNat b)),[],[],[]⟩:=by
 simp only[Uo,c];rfl
theorem Lg (a):Pc .u64 (.ofNat a) (.ofNat 8)=some (.p (La2 (a / 256))):=rfl
theorem wrap_u8 {a}(h:a<256):Xd .u8 (.ofNat a)=.ofNat a:=by
 show Int.ofNat (a%256)=_;rw[Zi h]
theorem NC {B}(d:Std B){n}(v:n<65536):∃l,l<100/\Xv B 187 [.one (La2 n)] (.one (La0 l)):=by
 have key:∃l,l<100/\Xv B 207 [.one (La2 n)] (.one (La0 l)):=by
  have p:¬4294967296<=n:=by omega
  have q:¬65536<=n:=by omega
  by_cases r:256<=n
  ·obtain⟨b,g,j⟩:=tX (i:=n / 256) (by omega);have e:Xd .i64 (.ofNat b)=.ofNat b:=wrap_i64 (by omega);have o:Xd .i64 (.ofNat (8+b))=.ofNat (8+b):=wrap_i64 (by omega);have f:Xd .u8 (.ofNat (n / 256))=.ofNat (n / 256):=wrap_u8 (by omega);refine⟨8+b,by omega,Xv.of (d.Wa _ _ rfl) (d.Xk.mono fun E K c=> ?_)⟩;have k:∀a,XQ E .TV a=false:=fun _=>rfl
   have u:Xm E .TV=false:=rfl;have m:∀(b:Nat) (a:X') (h:HF) (n:Nat),Wf E b .TV a h n=Uo a:=fun _ _ _ _=>rfl
   simp only[Xo,Xs,k,m,reduceIte,Nat.reduceEqDiff,Nat.reduceLeDiff,x207,p,q,r,Lg,eT g,e,o,f,w1]
  ·obtain⟨b,g,j⟩:=tX (i:=n) (by omega);have e:Xd .i64 (.ofNat b)=.ofNat b:=wrap_i64 (by omega);have o:Xd .i64 (.ofNat (0+b))=.ofNat b:=by grind
   have f:Xd .u8 (.ofNat n)=.ofNat n:=wrap_u8 (by omega);refine⟨b,by omega,Xv.of (d.Wa _ _ rfl) (d.Xk.mono fun E K c=> ?_)⟩;have k:∀a,XQ E .TV a=false:=fun _=>rfl
   have u:Xm E .TV=false:=rfl;have m:∀(b:Nat) (a:X') (h:HF) (n:Nat),Wf E b .TV a h n=Uo a:=fun _ _ _ _=>rfl
   simp only[Xo,Xs,k,m,reduceIte,Nat.reduceEqDiff,Nat.reduceLeDiff,x207,p,q,r,eT g,e,f]
 obtain⟨l,t,s⟩:=key;refine⟨l,t,Xv.of (d.Wa _ _ rfl) ((s.Xk.and d.Xk).mono fun E K ⟨e1,c⟩=> ?_)⟩;simp only[Xo,Xs,reduceIte,Nat.reduceEqDiff,Nat.reduceLeDiff,x187,c,X3,e1]
theorem ma {B}(a:Std B){x y z u x2 y2 z2 u2}{m n}(c:m.length=8)(d:n.length=8):
  Xv B 166 [.agg (x::y::z::u::mo m),.agg (x2::y2::z2::u2::mo n)] (.one (.int .i64 (WS n m))):=by
 have e:=Nc a d c;have f:(Xu m).take 8=Xu m:=Ze (by rw[Xc];omega);have g:(Xu n).take 8=Xu n:=Ze (by rw[Xc];omega);refine Xv.of (a.Wa _ _ rfl) ((e.Xk.and a.Xk).mono fun E K ⟨e1,b⟩=> ?_);simp only[Xo,Xs,VD,reduceIte,Nat.reduceEqDiff,Nat.reduceLeDiff,Nat.reduceAdd,x166,b,X3,e1,Wj,Xc,c,d,f,g,Wc,Wg]
def A9:PL->Option Nat
 | .int .i64 (.ofNat n)=>bif Nat.ble n 65535 then some n else none
 |_=>none
def wG (c:N'):Option P':=match c with
 |_::_::_::_::m=>bif Nat.beq m.length 8 then Xw A9 m else none
 |_=>none
def UC (c:N'):P':=(wG c).getD []
def isTerm (c:N'):Bool:=(wG c).isSome
theorem A8 {l}{n}(h:A9 l=some n):l=La0 n/\n<=65535:=by
 unfold A9 at h;split at h
 ·obtain⟨a,rfl⟩:=X4 h;exact⟨rfl,Vp a⟩
 ·cases h
theorem yO:∀{l} {m},Xw A9 l=some m->l=mo m/\∀e∈m,e<=65535
 |[],m,h=>by cases h;exact⟨rfl,fun _ h=>by cases h⟩
 |x::l,m,h=>by
  simp only[Xw]at h;split at h
  ·cases h
  ·rename_i n f;split at h
   ·cases h
   ·rename_i g b;cases h;obtain⟨rfl,c⟩:=A8 f;obtain⟨rfl,d⟩:=yO b;refine⟨rfl,fun e a=> ?_⟩;rcases Zk.1 a with rfl|a
    ·exact c
    ·exact d e a
theorem yR:∀{m},(∀e∈m,e<=65535)->Xw A9 (mo m)=some m
 |[],_=>rfl
 |e::m,h=>by
  have a:=yR (m:=m) fun x b=>h x (Za _ b)
  unfold mo at a;have :Nat.ble e 65535=true:=PU (h e (Zc ..));simp only[mo,Zt,Xw,A9,this,cond_true,a]
theorem Be {c}{m}(h:wG c=some m):∃x y z u,c=x::y::z::u::mo m/\XA m:=by
 unfold wG at h;split at h
 ·rename_i x y z u l;obtain⟨a,b⟩:=Wq h;obtain⟨rfl,d⟩:=yO b;refine⟨x,y,z,u,rfl,?_,d⟩;have:=Zl a;simpa[mo]using this
 ·cases h
theorem N8 {x y z u}{m}(h:XA m):wG (x::y::z::u::mo m)=some m:=by
 have a:Nat.beq (mo m).length 8=true:=by rw[XI,h.1];rfl
 simp only[wG,a,cond_true,yR h.2]
theorem Wt {c}(h:isTerm c=true):∃x y z u,c=x::y::z::u::mo (UC c)/\XA (UC c):=by
 unfold isTerm at h;obtain⟨m,a⟩:=Option.isSome_iff_exists.1 h;unfold UC;rw[a];exact Be a
theorem Bf {x y z u}{m}(h:XA m):UC (x::y::z::u::mo m)=m:=by
 unfold UC;rw[N8 h];rfl
def Qc (x y:N'):Int:=WS (UC y) (UC x)
def isNeg:Int->Bool
 | .negSucc _=>true
 |_=>false
theorem aj (z):isNeg z=true↔z<0:=by
 cases z with
 |ofNat n=>simp[isNeg]
 |negSucc n=>simp only[isNeg,true_iff];omega
theorem dw {m n}:WS m n<0↔WS m n=.negSucc 0:=by
 rcases VZ m n with h|h|h<;>rw[h]<;>decide
theorem ax:∀m n,WS n m=.negSucc 0↔WS m n=.ofNat 1
 |[],[]=>by simp[WS]
 |[],_::_=>by simp[WS]
 |_::_,[]=>by simp[WS]
 |a::m,b::n=>by
  simp only[WS];by_cases d:b<a
  ·have c:¬a<b:=by omega
   simp[d,c]
  ·by_cases c:a<b
   ·simp[d,c]
   ·simp only[d,c,if_false];exact ax m n
theorem bB:∀{l m n},l.length=m.length->m.length=n.length->WS l m=.ofNat 1->WS m n=.ofNat 1->WS l n=.ofNat 1
 |[],_,_,_,_,h,_=>by simp[WS]at h
 |_::_,[],_,h,_,_,_=>by simp at h
 |_::_,_::_,[],_,h,_,_=>by simp at h
 |a::l,b::m,c::n,h1,h2,h3,h4=>by
  simp only[WS]at h3 h4⊢;by_cases d:a<b
  ·simp[d]at h3
  ·by_cases e:b<c
   ·simp[e]at h4
   ·by_cases f:b<a
    ·have :c<a:=by omega
     have :¬a<c:=by omega
     simp[*]
    ·by_cases g:c<b
     ·have :c<a:=by omega
      have :¬a<c:=by omega
      simp[*]
     ·simp only[d,f,if_false]at h3;simp only[e,g,if_false]at h4;have :¬a<c:=by omega
      have :¬c<a:=by omega
      simp only[*,if_false];exact bB (by simpa using h1) (by simpa using h2) h3 h4
def ins (c:N'):Z'->Z'
 |[]=>[c]
 |d::ds=>bif isNeg (Qc d c)then d::ins c ds else c::d::ds
def TU:Z'->Z'
 |[]=>[]
 |c::cs=>ins c (TU cs)
theorem kq (c):∀a,(ins c a).Perm (c::a)
 |[]=>.refl _
 |d::a=>by
  unfold ins;cases isNeg (Qc d c)with
  |true=>exact((kq c a).cons d).trans (.swap ..)
  |false=>exact .refl _
theorem UJ:∀a,(TU a).Perm a
 |[]=>.refl _
 |c::a=>(kq c _).trans ((UJ a).cons c)
def TY (cs:Z'):Prop:=∀c∈cs,isTerm c=true
theorem FA {x}:¬Qc x x<0:=by
 unfold Qc;rw[Qj];decide
theorem zG {x y z}(c:isTerm x=true)(d:isTerm y=true)(e:isTerm z=true)(a:Qc x y<0)(b:Qc y z<0):Qc x z<0:=by
 obtain⟨_,_,_,_,-,f,-⟩:=Wt c;obtain⟨_,_,_,_,-,g,-⟩:=Wt d;obtain⟨_,_,_,_,-,h,-⟩:=Wt e;unfold Qc at *;rw[dw,ax]at *;exact bB (by omega) (by omega) a b
theorem u5 {x y}(c:isTerm x=true)(d:isTerm y=true)(a:¬Qc x y<0)(b:¬Qc y x<0):UC x=UC y:=by
 obtain⟨_,_,_,_,-,e,-⟩:=Wt c;obtain⟨_,_,_,_,-,f,-⟩:=Wt d;unfold Qc at *;rw[dw]at a b;rw[ax]at a;rcases VZ (UC x) (UC y)with h|h|h
 ·exact absurd h a
 ·exact absurd h b
 ·exact Rn (by omega) h
theorem Fz {x y z}(d:isTerm x=true)(f:isTerm y=true)(h:isTerm z=true)(g:¬Qc x y<0)(b:¬Qc y z<0):¬Qc x z<0:=by
 intro a;by_cases c:Qc y x<0
 ·exact b (zG f d h c a)
 ·have e:=u5 d f g c;exact b (by unfold Qc at a⊢;rw[<-e];exact a)
theorem ko {c}(i:isTerm c=true):∀{b},TY b->b.Pairwise (fun x y=>¬Qc y x<0)->(ins c b).Pairwise fun x y=>¬Qc y x<0
 |[],_,_=>by simp[ins]
 |d::b,l,h=>by
  have j:=l d (Zc ..);have f:TY b:=fun x a=>l x (Za _ a)
  obtain⟨k,m⟩:=Zu.1 h;unfold ins;cases g:isNeg (Qc d c)with
  |true=>
   rw[aj]at g;refine Zu.2 ⟨fun x a=> ?_,ko i f m⟩;rcases Zk.1 ((kq c b).mem_iff.1 a)with rfl|a
   ·intro n;exact FA (zG j i j g n)
   ·exact k x a
  |false=>
   have e:¬Qc d c<0:=fun q=>by rw[<-aj]at q;rw[q]at g;cases g
   refine Zu.2 ⟨fun x a=> ?_,h⟩;rcases Zk.1 a with rfl|a
   ·exact e
   ·exact Fz (f x a) j i (k x a) e
theorem fZ {a}(h:TY a):TY (TU a):=fun c b=>h c ((UJ a).mem_iff.1 b)
theorem R7:∀{a},TY a->(TU a).Pairwise fun x y=>¬Qc y x<0
 |[],_=>.nil
 |c::a,h=>ko (h c (Zc ..)) (fZ fun x b=>h x (Za _ b)) (R7 fun x b=>h x (Za _ b))
def lW (cs:Z'):Prop:=∀x∈cs,∀y∈cs,UC x=UC y->x=y
theorem qn {a b}(h:TY a)(k:lW a)(f:b.Perm a):TU b=TU a:=by
 have l:TY b:=fun c j=>h c (f.mem_iff.1 j)
 refine List.Perm.eq_of_pairwise (le:=fun x y=>¬Qc y x<0) (fun x y m n g i=> ?_) (R7 l) (R7 h) ((UJ b).trans (f.trans (UJ a).symm));have d:=f.mem_iff.1 ((UJ b).mem_iff.1 m);have e:=(UJ a).mem_iff.1 n;exact k x d y e (u5 (h x d) (h y e) i g)
def Gg:DL->Option PL
 | .p l=>some l
 |_=>none
theorem o5:∀l,Xw Gg (l.map DL.p)=some l
 |[]=>rfl
 |x::l=>by simp only[Zt,Xw,Gg,o5 l]
theorem vJ:∀a,Xw (Xw Gg) (pc a)=some a
 |[]=>rfl
 |e::a=>by
  have:=vJ a;unfold pc at this;simp only[pc,Zt,Xw,o5,this]
theorem o6:∀{l} {r},Xw Gg l=some r->l=r.map DL.p
 |[],r,h=>by cases h;rfl
 |x::l,r,h=>by
  simp only[Xw]at h;split at h
  ·cases h
  ·rename_i y b;split at h
   ·cases h
   ·rename_i c a;cases h;rw[o6 a];cases x<;>simp[Gg]at b;subst b;rfl
theorem iI:∀{l} {r},Xw (Xw Gg) l=some r->l=pc r
 |[],r,h=>by cases h;rfl
 |x::l,r,h=>by
  simp only[Xw]at h;split at h
  ·cases h
  ·rename_i y b;split at h
   ·cases h
   ·rename_i c a;cases h;rw[iI a,o6 b];rfl
def Tn:Z'->Bool
 |[]=>true
 |c::cs=>cs.all (fun d=> !(kS Nat.beq (UC c) (UC d)))&&Tn cs
theorem fj:∀m,kS Nat.beq m m=true
 |[]=>rfl
 |a::m=>by simp[kS,fj m]
theorem Rh:∀{a},Tn a=true->lW a
 |[],_=>fun _ h=>by cases h
 |c::a,h=>by
  simp only[Tn,Zs,ZH,Yq]at h;obtain⟨b,f⟩:=h;have k:=Rh f;have key:∀d∈a,UC c≠UC d:=by
   intro d g e;have:=b d g;rw[e,fj]at this;cases this
  intro x i y j e;rcases Zk.1 i with px|px<;>rcases Zk.1 j with py|py
  ·rw[px,py]
  ·rw[px]at e;exact absurd e (key y py)
  ·rw[py]at e;exact absurd e.symm (key x px)
  ·exact k x px y py e
def jB (args:X')(H:V'):Option (DV×V'):=
 match args with
 |[.one (.own i XW 0 n),.one (.p (.int .i64 (.ofNat 0))),.one (.p (.int .i64 (.ofNat n2))),.one (.p (.int .i64 (.ofNat lm))),.one (.p (.fn g []))]=>
  bif Nat.beq g 166&&Nat.blt lm 4611686018427387904 then
   match H[i]? with
   |some b=>match Xw (Xw Gg) b.ch with
    |some es=>bif !b.mp&& !b.fz&&Nat.beq XW b.XW&&Nat.beq b.sz 12&&Nat.beq n es.length&&Nat.beq n2 es.length&&Nat.blt es.length 1000000&&es.all isTerm&&Tn es then some (.Wd [],H.set i {b with ch:=(TU es).map (·.map .p)})else none
    |none=>none
   |none=>none
  else none
 |_=>none
theorem Sf:∀o m n,WY o m n=.ofNat 1\/WY o m n=.negSucc 0\/WY o m n=.ofNat 0
 |[],m,n=>VZ m n
 |r::o,m,n=>by
  simp only[WY];by_cases a:wt r m<wt r n
  ·omega
  ·rw[if_neg a];by_cases b:wt r n<wt r m
   ·omega
   ·rw[if_neg b];exact Sf o m n
theorem qT {o}{m n}:WY o m n<0↔WY o m n=.negSucc 0:=by grind [Sf]
theorem PR:∀{o} {m n},WY o n m=.negSucc 0↔WY o m n=.ofNat 1
 |[],m,n=>ax m n
 |r::o,m,n=>by
  simp only[WY];by_cases a:wt r m<wt r n
  ·omega
  ·by_cases b:wt r n<wt r m
   ·simp[a,b]
   ·simp only[a,b,if_false];exact PR
theorem bA:∀{o} {l m n},l.length=m.length->m.length=n.length->WY o l m=.ofNat 1->WY o m n=.ofNat 1->WY o l n=.ofNat 1
 |[],_,_,_,h1,h2,h3,h4=>bB h1 h2 h3 h4
 |r::o,l,m,n,h1,h2,h3,h4=>by
  simp only[WY]at h3 h4⊢;by_cases a:wt r l<wt r m
  ·simp[a]at h3
  ·by_cases b:wt r m<wt r n
   ·simp[b]at h4
   ·by_cases c:wt r m<wt r l
    ·omega
    ·by_cases d:wt r n<wt r m
     ·omega
     ·simp only[a,c,if_false]at h3;simp only[b,d,if_false]at h4;have :¬wt r l<wt r n:=by omega
      have :¬wt r n<wt r l:=by omega
      simp only[*,if_false];exact bA h1 h2 h3 h4
theorem aw:∀{o} {m n},m.length=n.length->WY o m n=.ofNat 0->m=n
 |[],_,_,h,h0=>Rn h h0
 |r::o,m,n,h,h0=>by
  simp only[WY]at h0;by_cases a:wt r m<wt r n
  ·simp[a]at h0
  ·by_cases b:wt r n<wt r m
   ·simp[a,b]at h0
   ·simp only[a,b,if_false]at h0;exact aw h h0
def Tw (o:M')(x y:N'):Int:=WY o (UC y) (UC x)
def kr (o:M')(c:N'):Z'->Z'
 |[]=>[c]
 |d::ds=>bif isNeg (Tw o d c)then d::kr o c ds else c::d::ds
def TJ (o:M'):Z'->Z'
 |[]=>[]
 |c::cs=>kr o c (TJ o cs)
variable {o:M'}
theorem eP (c):∀a,(kr o c a).Perm (c::a)
 |[]=>.refl _
 |d::a=>by
  unfold kr;cases isNeg (Tw o d c)with
  |true=>exact((eP c a).cons d).trans (.swap ..)
  |false=>exact .refl _
theorem RJ:∀a,(TJ o a).Perm a
 |[]=>.refl _
 |c::a=>(eP c _).trans ((RJ a).cons c)
theorem u3 {x}:¬Tw o x x<0:=by grind [Tw,PN]
theorem qS {x y z}(a:isTerm x=true)(b:isTerm y=true)(c:isTerm z=true)(d:Tw o x y<0)(e:Tw o y z<0):Tw o x z<0:=by
 obtain⟨_,_,_,_,-,f,-⟩:=Wt a;obtain⟨_,_,_,_,-,g,-⟩:=Wt b;obtain⟨_,_,_,_,-,h,-⟩:=Wt c
 grind [Tw,qT,PR,bA]
theorem uY {x y}(a:isTerm x=true)(b:isTerm y=true)(c:¬Tw o x y<0)(d:¬Tw o y x<0):UC x=UC y:=by
 obtain⟨_,_,_,_,-,e,-⟩:=Wt a;obtain⟨_,_,_,_,-,f,-⟩:=Wt b
 grind [Tw,PR,Sf,aw]
theorem uZ {x y z}(c:isTerm x=true)(d:isTerm y=true)(e:isTerm z=true)(a:¬Tw o x y<0)(b:¬Tw o y z<0):¬Tw o x z<0:=by grind [Tw,qS,uY]
theorem ga {c}(i:isTerm c=true):∀{b},TY b->b.Pairwise (fun x y=>¬Tw o y x<0)->(kr o c b).Pairwise fun x y=>¬Tw o y x<0
 |[],_,_=>by simp[kr]
 |d::b,j,h=>by
  have l:=j d (Zc ..);have f:TY b:=fun x a=>j x (Za _ a)
  obtain⟨g,k⟩:=Zu.1 h;unfold kr;cases m:isNeg (Tw o d c)with
  |true=>
   rw[aj]at m;refine Zu.2 ⟨fun x a=> ?_,ga i f k⟩;rcases Zk.1 ((eP c b).mem_iff.1 a)with rfl|a
   ·grind [u3,qS]
   ·exact g x a
  |false=>
   have e:¬Tw o d c<0:=fun q=>by grind [aj]
   refine Zu.2 ⟨fun x a=> ?_,h⟩;rcases Zk.1 a with rfl|a
   ·exact e
   ·exact uZ (f x a) l i (g x a) e
theorem qo {a}(h:TY a):TY (TJ o a):=fun c b=>h c ((RJ a).mem_iff.1 b)
theorem Pa:∀{a},TY a->(TJ o a).Pairwise fun x y=>¬Tw o y x<0
 |[],_=>.nil
 |c::a,h=>ga (h c (Zc ..)) (qo fun x b=>h x (Za _ b)) (Pa fun x b=>h x (Za _ b))
