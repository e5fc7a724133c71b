/- The order of the terms of a polynomial: the comparison, the one sorted list, and what the library's sort answers. -/
import Derived.Test.YtidginchkjhobaaGreatPol
set_option maxHeartbeats 16000000
set_option maxRecDepth 100000
namespace Go.Proofs.YtidginchkjhobaaGreat
open Go.Ev Go.Num
theorem rT {i:Nat}(h:i<256):∃b,(0::1::2::2::3::3::3::3::4::4::4::4::4::4::4::4::5::5::5::5::5::5::5::5::5::5::5::5::5::5::5::5::6::6::6::6::6::6::6::6::6::6::6::6::6::6::6::6::6::6::6::6::6::6::6::6::6::6::6::6::6::6::6::6::7::7::7::7::7::7::7::7::7::7::7::7::7::7::7::7::7::7::7::7::7::7::7::7::7::7::7::7::7::7::7::7::7::7::7::7::7::7::7::7::7::7::7::7::7::7::7::7::7::7::7::7::7::7::7::7::7::7::7::7::7::7::7::7::8::8::8::8::8::8::8::8::8::8::8::8::8::8::8::8::8::8::8::8::8::8::8::8::8::8::8::8::8::8::8::8::8::8::8::8::8::8::8::8::8::8::8::8::8::8::8::8::8::8::8::8::8::8::8::8::8::8::8::8::8::8::8::8::8::8::8::8::8::8::8::8::8::8::8::8::8::8::8::8::8::8::8::8::8::8::8::8::8::8::8::8::8::8::8::8::8::8::8::8::8::8::8::8::8::8::8::8::8::8::8::8::8::8::8::8::8::8::8::8::8::8::8::8::8::8::8::8::[]:P')[i]? =some b/\b<=8:=by
 generalize a:(0::1::2::2::3::3::3::3::4::4::4::4::4::4::4::4::5::5::5::5::5::5::5::5::5::5::5::5::5::5::5::5::6::6::6::6::6::6::6::6::6::6::6::6::6::6::6::6::6::6::6::6::6::6::6::6::6::6::6::6::6::6::6::6::7::7::7::7::7::7::7::7::7::7::7::7::7::7::7::7::7::7::7::7::7::7::7::7::7::7::7::7::7::7::7::7::7::7::7::7::7::7::7::7::7::7::7::7::7::7::7::7::7::7::7::7::7::7::7::7::7::7::7::7::7::7::7::7::8::8::8::8::8::8::8::8::8::8::8::8::8::8::8::8::8::8::8::8::8::8::8::8::8::8::8::8::8::8::8::8::8::8::8::8::8::8::8::8::8::8::8::8::8::8::8::8::8::8::8::8::8::8::8::8::8::8::8::8::8::8::8::8::8::8::8::8::8::8::8::8::8::8::8::8::8::8::8::8::8::8::8::8::8::8::8::8::8::8::8::8::8::8::8::8::8::8::8::8::8::8::8::8::8::8::8::8::8::8::8::8::8::8::8::8::8::8::8::8::8::8::8::8::8::8::8::8::[]:P')=L;have d:L.length=256:=by subst a;rfl
 have c:L.all (fun b=>Nat.ble b 8)=true:=by subst a;rfl
 simp_all
theorem dN {a:P'}{i b:Nat}(c:a[i]? =some b)(k:IntKind):Ui [.one (.p (.str a)),.one (.p (.int k (.ofNat i)))]=some ⟨.one (.p (.int .u8 (.ofNat b))),[],[],[]⟩:=by
 simp only[Ui,c];rfl
theorem Jf (a:Nat):QX .u64 (.ofNat a) (.ofNat 8)=some (.p (LC (a / 256))):=rfl
theorem wrap_u8 {a:Nat}(h:a<256):Xe .u8 (.ofNat a)=.ofNat a:=by
 show Int.ofNat (a%256)=_;rw[Zh h]
theorem O9 {B:Xs}(d:Std B){n:Nat}(v:n<65536):∃l,l<100/\Xu B 187 [.one (LC n)] (.one (LA l)):=by
 have key:∃l,l<100/\Xu B 207 [.one (LC n)] (.one (LA l)):=by
  have p:¬4294967296<=n:=by omega
  have q:¬65536<=n:=by omega
  by_cases r:256<=n
  ·obtain⟨b,g,j⟩:=rT (i:=n / 256) (by omega);have e:Xe .i64 (.ofNat b)=.ofNat b:=wrap_i64 (by omega);have o:Xe .i64 (.ofNat (8+b))=.ofNat (8+b):=wrap_i64 (by omega);have f:Xe .u8 (.ofNat (n / 256))=.ofNat (n / 256):=wrap_u8 (by omega);refine⟨8+b,by omega,Xu.of (d.Wa _ _ rfl) (d.Xk.mono fun E K c=> ?_)⟩;have k:∀a,XL E .TI a=false:=fun _=>rfl
   have u:Xl E .TI=false:=rfl;have m:∀(b:Nat) (a:X') (h:HF) (n:Nat),We E b .TI a h n=Ui a:=fun _ _ _ _=>rfl
   simp only[Xo,Xr,k,m,reduceIte,Nat.reduceEqDiff,Nat.reduceLeDiff,x207,p,q,r,Jf,dN g,e,o,f,w1]
  ·obtain⟨b,g,j⟩:=rT (i:=n) (by omega);have e:Xe .i64 (.ofNat b)=.ofNat b:=wrap_i64 (by omega);have o:Xe .i64 (.ofNat (0+b))=.ofNat b:=by grind
   have f:Xe .u8 (.ofNat n)=.ofNat n:=wrap_u8 (by omega);refine⟨b,by omega,Xu.of (d.Wa _ _ rfl) (d.Xk.mono fun E K c=> ?_)⟩;have k:∀a,XL E .TI a=false:=fun _=>rfl
   have u:Xl E .TI=false:=rfl;have m:∀(b:Nat) (a:X') (h:HF) (n:Nat),We E b .TI a h n=Ui a:=fun _ _ _ _=>rfl
   simp only[Xo,Xr,k,m,reduceIte,Nat.reduceEqDiff,Nat.reduceLeDiff,x207,p,q,r,dN g,e,f]
 obtain⟨l,t,s⟩:=key;refine⟨l,t,Xu.of (d.Wa _ _ rfl) ((s.Xk.and d.Xk).mono fun E K ⟨e1,c⟩=> ?_)⟩;simp only[Xo,Xr,reduceIte,Nat.reduceEqDiff,Nat.reduceLeDiff,x187,c,X4,e1]
theorem kB {B:Xs}(a:Std B){x y z u x2 y2 z2 u2:PL}{m n:P'}(c:m.length=8)(d:n.length=8):
  Xu B 166 [.agg (x::y::z::u::mo m),.agg (x2::y2::z2::u2::mo n)] (.one (.int .i64 (WJ n m))):=by
 have e:=OJ a d c;have f:(Xw m).take 8=Xw m:=Zd (by rw[Xc];omega);have g:(Xw n).take 8=Xw n:=Zd (by rw[Xc];omega);refine Xu.of (a.Wa _ _ rfl) ((e.Xk.and a.Xk).mono fun E K ⟨e1,b⟩=> ?_);simp only[Xo,Xr,VR,reduceIte,Nat.reduceEqDiff,Nat.reduceLeDiff,Nat.reduceAdd,x166,b,X4,e1,Wj,Xc,c,d,f,g,Wb,Wf]
def zh:PL->Option Nat
 | .int .i64 (.ofNat n)=>bif Nat.ble n 65535 then some n else none
 |_=>none
def uV (c:N'):Option P':=match c with
 |_::_::_::_::m=>bif Nat.beq m.length 8 then Xv zh m else none
 |_=>none
def Uk (c:N'):P':=(uV c).getD []
def isTerm (c:N'):Bool:=(uV c).isSome
theorem zg {l:PL}{n:Nat}(h:zh l=some n):l=LA n/\n<=65535:=by
 unfold zh at h;split at h
 ·obtain⟨a,rfl⟩:=XX h;exact⟨rfl,W7 a⟩
 ·cases h
theorem wR:∀{l:N'} {m:P'},Xv zh l=some m->l=mo m/\∀e∈m,e<=65535
 |[],m,h=>by cases h;exact⟨rfl,fun _ h=>by cases h⟩
 |x::l,m,h=>by
  simp only[Xv]at h;split at h
  ·cases h
  ·rename_i n f;split at h
   ·cases h
   ·rename_i g b;cases h;obtain⟨rfl,c⟩:=zg f;obtain⟨rfl,d⟩:=wR b;refine⟨rfl,fun e a=> ?_⟩;rcases Zj.1 a with rfl|a
    ·exact c
    ·exact d e a
theorem wT:∀{m:P'},(∀e∈m,e<=65535)->Xv zh (mo m)=some m
 |[],_=>rfl
 |e::m,h=>by
  have a:=wT (m:=m) fun x b=>h x (Zb _ b)
  unfold mo at a;have :Nat.ble e 65535=true:=Py (h e (Zc ..));simp only[mo,Zt,Xv,zh,this,cond_true,a]
theorem zn {c:N'}{m:P'}(h:uV c=some m):∃x y z u,c=x::y::z::u::mo m/\XD m:=by
 unfold uV at h;split at h
 ·rename_i x y z u l;obtain⟨a,b⟩:=Wg h;obtain⟨rfl,d⟩:=wR b;refine⟨x,y,z,u,rfl,?_,d⟩;have:=Zl a;simpa[mo]using this
 ·cases h
theorem NB {x y z u:PL}{m:P'}(h:XD m):uV (x::y::z::u::mo m)=some m:=by
 have a:Nat.beq (mo m).length 8=true:=by rw[XF,h.1];rfl
 simp only[uV,a,cond_true,wT h.2]
theorem Wp {c:N'}(h:isTerm c=true):∃x y z u,c=x::y::z::u::mo (Uk c)/\XD (Uk c):=by
 unfold isTerm at h;obtain⟨m,a⟩:=Option.isSome_iff_exists.1 h;unfold Uk;rw[a];exact zn a
theorem zo {x y z u:PL}{m:P'}(h:XD m):Uk (x::y::z::u::mo m)=m:=by
 unfold Uk;rw[NB h];rfl
def RG (x y:N'):Int:=WJ (Uk y) (Uk x)
def isNeg:Int->Bool
 | .negSucc _=>true
 |_=>false
theorem NG (z:Int):isNeg z=true↔z<0:=by
 cases z with
 |ofNat n=>simp[isNeg]
 |negSucc n=>simp only[isNeg,true_iff];omega
theorem P6 {m n:P'}:WJ m n<0↔WJ m n=.negSucc 0:=by
 rcases VX m n with h|h|h<;>rw[h]<;>decide
theorem NQ:∀(m n:P'),WJ n m=.negSucc 0↔WJ m n=.ofNat 1
 |[],[]=>by simp[WJ]
 |[],_::_=>by simp[WJ]
 |_::_,[]=>by simp[WJ]
 |a::m,b::n=>by
  simp only[WJ];by_cases d:b<a
  ·have c:¬a<b:=by omega
   simp[d,c]
  ·by_cases c:a<b
   ·simp[d,c]
   ·simp only[d,c,if_false];exact NQ m n
theorem aK:∀{l m n:P'},l.length=m.length->m.length=n.length->WJ l m=.ofNat 1->WJ m n=.ofNat 1->WJ l n=.ofNat 1
 |[],_,_,_,_,h,_=>by simp[WJ]at h
 |_::_,[],_,h,_,_,_=>by simp at h
 |_::_,_::_,[],_,h,_,_=>by simp at h
 |a::l,b::m,c::n,h1,h2,h3,h4=>by
  simp only[WJ]at h3 h4⊢;by_cases d:a<b
  ·simp[d]at h3
  ·by_cases e:b<c
   ·simp[e]at h4
   ·by_cases f:b<a
    ·have :c<a:=by omega
     have :¬a<c:=by omega
     simp[*]
    ·by_cases g:c<b
     ·have :c<a:=by omega
      have :¬a<c:=by omega
      simp[*]
     ·simp only[d,f,if_false]at h3;simp only[e,g,if_false]at h4;have :¬a<c:=by omega
      have :¬c<a:=by omega
      simp only[*,if_false];exact aK (by simpa using h1) (by simpa using h2) h3 h4
def ins (c:N'):I'->I'
 |[]=>[c]
 |d::ds=>bif isNeg (RG d c)then d::ins c ds else c::d::ds
def TH:I'->I'
 |[]=>[]
 |c::cs=>ins c (TH cs)
theorem jl (c:N'):∀a,(ins c a).Perm (c::a)
 |[]=>.refl _
 |d::a=>by
  unfold ins;cases isNeg (RG d c)with
  |true=>exact((jl c a).cons d).trans (.swap ..)
  |false=>exact .refl _
theorem Uz:∀a,(TH a).Perm a
 |[]=>.refl _
 |c::a=>(jl c _).trans ((Uz a).cons c)
def TK (cs:I'):Prop:=∀c∈cs,isTerm c=true
theorem Ds {x:N'}:¬RG x x<0:=by
 unfold RG;rw[Qa];decide
theorem xO {x y z:N'}(c:isTerm x=true)(d:isTerm y=true)(e:isTerm z=true)(a:RG x y<0)(b:RG y z<0):RG x z<0:=by
 obtain⟨_,_,_,_,-,f,-⟩:=Wp c;obtain⟨_,_,_,_,-,g,-⟩:=Wp d;obtain⟨_,_,_,_,-,h,-⟩:=Wp e;unfold RG at *;rw[P6,NQ]at *;exact aK (by omega) (by omega) a b
theorem tj {x y:N'}(c:isTerm x=true)(d:isTerm y=true)(a:¬RG x y<0)(b:¬RG y x<0):Uk x=Uk y:=by
 obtain⟨_,_,_,_,-,e,-⟩:=Wp c;obtain⟨_,_,_,_,-,f,-⟩:=Wp d;unfold RG at *;rw[P6]at a b;rw[NQ]at a;rcases VX (Uk x) (Uk y)with h|h|h
 ·exact absurd h a
 ·exact absurd h b
 ·exact S9 (by omega) h
theorem Dr {x y z:N'}(d:isTerm x=true)(f:isTerm y=true)(h:isTerm z=true)(g:¬RG x y<0)(b:¬RG y z<0):¬RG x z<0:=by
 intro a;by_cases c:RG y x<0
 ·exact b (xO f d h c a)
 ·have e:=tj d f g c;exact b (by unfold RG at a⊢;rw[<-e];exact a)
theorem jk {c:N'}(i:isTerm c=true):∀{b:I'},TK b->b.Pairwise (fun x y=>¬RG y x<0)->(ins c b).Pairwise fun x y=>¬RG y x<0
 |[],_,_=>by simp[ins]
 |d::b,l,h=>by
  have j:=l d (Zc ..);have f:TK b:=fun x a=>l x (Zb _ a)
  obtain⟨k,m⟩:=Zu.1 h;unfold ins;cases g:isNeg (RG d c)with
  |true=>
   rw[NG]at g;refine Zu.2 ⟨fun x a=> ?_,jk i f m⟩;rcases Zj.1 ((jl c b).mem_iff.1 a)with rfl|a
   ·intro n;exact Ds (xO j i j g n)
   ·exact k x a
  |false=>
   have e:¬RG d c<0:=fun q=>by rw[<-NG]at q;rw[q]at g;cases g
   refine Zu.2 ⟨fun x a=> ?_,h⟩;rcases Zj.1 a with rfl|a
   ·exact e
   ·exact Dr (f x a) j i (k x a) e
theorem eP {a:I'}(h:TK a):TK (TH a):=fun c b=>h c ((Uz a).mem_iff.1 b)
theorem RW:∀{a:I'},TK a->(TH a).Pairwise fun x y=>¬RG y x<0
 |[],_=>.nil
 |c::a,h=>jk (h c (Zc ..)) (eP fun x b=>h x (Zb _ b)) (RW fun x b=>h x (Zb _ b))
def ku (cs:I'):Prop:=∀x∈cs,∀y∈cs,Uk x=Uk y->x=y
theorem oy {a b:I'}(h:TK a)(k:ku a)(f:b.Perm a):TH b=TH a:=by
 have l:TK b:=fun c j=>h c (f.mem_iff.1 j)
 refine List.Perm.eq_of_pairwise (le:=fun x y=>¬RG y x<0) (fun x y m n g i=> ?_) (RW l) (RW h) ((Uz b).trans (f.trans (Uz a).symm));have d:=f.mem_iff.1 ((Uz b).mem_iff.1 m);have e:=(Uz a).mem_iff.1 n;exact k x d y e (tj (h x d) (h y e) i g)
def D9:DL->Option PL
 | .p l=>some l
 |_=>none
theorem nE:∀(l:N'),Xv D9 (l.map DL.p)=some l
 |[]=>rfl
 |x::l=>by simp only[Zt,Xv,D9,nE l]
theorem tZ:∀(a:I'),Xv (Xv D9) (pc a)=some a
 |[]=>rfl
 |e::a=>by
  have:=tZ a;unfold pc at this;simp only[pc,Zt,Xv,nE,this]
theorem nF:∀{l:Y'} {r:N'},Xv D9 l=some r->l=r.map DL.p
 |[],r,h=>by cases h;rfl
 |x::l,r,h=>by
  simp only[Xv]at h;split at h
  ·cases h
  ·rename_i y b;split at h
   ·cases h
   ·rename_i c a;cases h;rw[nF a];cases x<;>simp[D9]at b;subst b;rfl
theorem gA:∀{l:K'} {r:I'},Xv (Xv D9) l=some r->l=pc r
 |[],r,h=>by cases h;rfl
 |x::l,r,h=>by
  simp only[Xv]at h;split at h
  ·cases h
  ·rename_i y b;split at h
   ·cases h
   ·rename_i c a;cases h;rw[gA a,nF b];rfl
def Ta:I'->Bool
 |[]=>true
 |c::cs=>cs.all (fun d=> !(jJ Nat.beq (Uk c) (Uk d)))&&Ta cs
theorem dW:∀(m:P'),jJ Nat.beq m m=true
 |[]=>rfl
 |a::m=>by simp[jJ,dW m]
theorem S4:∀{a:I'},Ta a=true->ku a
 |[],_=>fun _ h=>by cases h
 |c::a,h=>by
  simp only[Ta,Zs,ZI,YB]at h;obtain⟨b,f⟩:=h;have k:=S4 f;have key:∀d∈a,Uk c≠Uk d:=by
   intro d g e;have:=b d g;rw[e,dW]at this;cases this
  intro x i y j e;rcases Zj.1 i with px|px<;>rcases Zj.1 j with py|py
  ·rw[px,py]
  ·rw[px]at e;exact absurd e (key y py)
  ·rw[py]at e;exact absurd e.symm (key x px)
  ·exact k x px y py e
def iH (args:X')(H:V'):Option (DV×V'):=
 match args with
 |[.one (.own i XM 0 n),.one (.p (.int .i64 (.ofNat 0))),.one (.p (.int .i64 (.ofNat n2))),.one (.p (.int .i64 (.ofNat lm))),.one (.p (.fn g []))]=>
  bif Nat.beq g 166&&Nat.blt lm 4611686018427387904 then
   match H[i]? with
   |some b=>match Xv (Xv D9) b.ch with
    |some es=>bif !b.mp&& !b.fz&&Nat.beq XM b.XM&&Nat.beq b.sz 12&&Nat.beq n es.length&&Nat.beq n2 es.length&&Nat.blt es.length 1000000&&es.all isTerm&&Ta es then some (.X9 [],H.set i {b with ch:=(TH es).map (·.map .p)})else none
    |none=>none
   |none=>none
  else none
 |_=>none
theorem Ul:∀(o:M') (m n:P'),WX o m n=.ofNat 1\/WX o m n=.negSucc 0\/WX o m n=.ofNat 0
 |[],m,n=>VX m n
 |r::o,m,n=>by
  simp only[WX];by_cases a:wt r m<wt r n
  ·rw[if_pos a];exact .inr (.inl rfl)
  ·rw[if_neg a];by_cases b:wt r n<wt r m
   ·rw[if_pos b];exact .inl rfl
   ·rw[if_neg b];exact Ul o m n
theorem cr {o:M'}{m n:P'}:WX o m n<0↔WX o m n=.negSucc 0:=by
 rcases Ul o m n with h|h|h<;>rw[h]<;>decide
theorem Pw:∀{o:M'} {m n:P'},WX o n m=.negSucc 0↔WX o m n=.ofNat 1
 |[],m,n=>NQ m n
 |r::o,m,n=>by
  simp only[WX];by_cases b:wt r m<wt r n
  ·have a:¬wt r n<wt r m:=by omega
   simp[b,a]
  ·by_cases a:wt r n<wt r m
   ·simp[b,a]
   ·simp only[b,a,if_false];exact Pw
theorem aJ:∀{o:M'} {l m n:P'},l.length=m.length->m.length=n.length->WX o l m=.ofNat 1->WX o m n=.ofNat 1->WX o l n=.ofNat 1
 |[],_,_,_,h1,h2,h3,h4=>aK h1 h2 h3 h4
 |r::o,l,m,n,h1,h2,h3,h4=>by
  simp only[WX]at h3 h4⊢;by_cases a:wt r l<wt r m
  ·simp[a]at h3
  ·by_cases b:wt r m<wt r n
   ·simp[b]at h4
   ·by_cases c:wt r m<wt r l
    ·have :wt r n<wt r l:=by omega
     have :¬wt r l<wt r n:=by omega
     simp[*]
    ·by_cases d:wt r n<wt r m
     ·have :wt r n<wt r l:=by omega
      have :¬wt r l<wt r n:=by omega
      simp[*]
     ·simp only[a,c,if_false]at h3;simp only[b,d,if_false]at h4;have :¬wt r l<wt r n:=by omega
      have :¬wt r n<wt r l:=by omega
      simp only[*,if_false];exact aJ h1 h2 h3 h4
theorem ef:∀{o:M'} {m n:P'},m.length=n.length->WX o m n=.ofNat 0->m=n
 |[],_,_,h,h0=>S9 h h0
 |r::o,m,n,h,h0=>by
  simp only[WX]at h0;by_cases a:wt r m<wt r n
  ·simp[a]at h0
  ·by_cases b:wt r n<wt r m
   ·simp[a,b]at h0
   ·simp only[a,b,if_false]at h0;exact ef h h0
def U1 (o:M')(x y:N'):Int:=WX o (Uk y) (Uk x)
def jm (o:M')(c:N'):I'->I'
 |[]=>[c]
 |d::ds=>bif isNeg (U1 o d c)then d::jm o c ds else c::d::ds
def TA (o:M'):I'->I'
 |[]=>[]
 |c::cs=>jm o c (TA o cs)
variable {o:M'}
theorem dL (c:N'):∀a,(jm o c a).Perm (c::a)
 |[]=>.refl _
 |d::a=>by
  unfold jm;cases isNeg (U1 o d c)with
  |true=>exact((dL c a).cons d).trans (.swap ..)
  |false=>exact .refl _
theorem Rr:∀a,(TA o a).Perm a
 |[]=>.refl _
 |c::a=>(dL c _).trans ((Rr a).cons c)
theorem th {x:N'}:¬U1 o x x<0:=by
 unfold U1;rw[NP];decide
theorem o7 {x y z:N'}(c:isTerm x=true)(d:isTerm y=true)(e:isTerm z=true)(a:U1 o x y<0)(b:U1 o y z<0):U1 o x z<0:=by
 obtain⟨_,_,_,_,-,f,-⟩:=Wp c;obtain⟨_,_,_,_,-,g,-⟩:=Wp d;obtain⟨_,_,_,_,-,h,-⟩:=Wp e;unfold U1 at *;rw[cr,Pw]at *;exact aJ (by omega) (by omega) a b
theorem td {x y:N'}(c:isTerm x=true)(d:isTerm y=true)(a:¬U1 o x y<0)(b:¬U1 o y x<0):Uk x=Uk y:=by
 obtain⟨_,_,_,_,-,e,-⟩:=Wp c;obtain⟨_,_,_,_,-,f,-⟩:=Wp d;unfold U1 at *;rw[cr]at a b;rw[Pw]at a;rcases Ul o (Uk x) (Uk y)with h|h|h
 ·exact absurd h a
 ·exact absurd h b
 ·exact ef (by omega) h
theorem tf {x y z:N'}(d:isTerm x=true)(f:isTerm y=true)(h:isTerm z=true)(g:¬U1 o x y<0)(b:¬U1 o y z<0):¬U1 o x z<0:=by
 intro a;by_cases c:U1 o y x<0
 ·exact b (o7 f d h c a)
 ·have e:=td d f g c;exact b (by unfold U1 at a⊢;rw[<-e];exact a)
theorem eQ {c:N'}(i:isTerm c=true):∀{b:I'},TK b->b.Pairwise (fun x y=>¬U1 o y x<0)->(jm o c b).Pairwise fun x y=>¬U1 o y x<0
 |[],_,_=>by simp[jm]
 |d::b,l,h=>by
  have j:=l d (Zc ..);have f:TK b:=fun x a=>l x (Zb _ a)
  obtain⟨k,m⟩:=Zu.1 h;unfold jm;cases g:isNeg (U1 o d c)with
  |true=>
   rw[NG]at g;refine Zu.2 ⟨fun x a=> ?_,eQ i f m⟩;rcases Zj.1 ((dL c b).mem_iff.1 a)with rfl|a
   ·intro n;exact th (o7 j i j g n)
   ·exact k x a
  |false=>
   have e:¬U1 o d c<0:=fun q=>by rw[<-NG]at q;rw[q]at g;cases g
   refine Zu.2 ⟨fun x a=> ?_,h⟩;rcases Zj.1 a with rfl|a
   ·exact e
   ·exact tf (f x a) j i (k x a) e
theorem oz {a:I'}(h:TK a):TK (TA o a):=fun c b=>h c ((Rr a).mem_iff.1 b)
theorem QU:∀{a:I'},TK a->(TA o a).Pairwise fun x y=>¬U1 o y x<0
 |[],_=>.nil
 |c::a,h=>eQ (h c (Zc ..)) (oz fun x b=>h x (Zb _ b)) (QU fun x b=>h x (Zb _ b))
end Go.Proofs.YtidginchkjhobaaGreat
