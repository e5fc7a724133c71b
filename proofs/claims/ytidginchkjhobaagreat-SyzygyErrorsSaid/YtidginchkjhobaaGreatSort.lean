/- The order of the terms of a polynomial: the comparison, the one sorted list, and what the library's sort answers. -/
import Derived.Test.YtidginchkjhobaaGreatPol
set_option maxHeartbeats 16000000
set_option maxRecDepth 100000
namespace Go.Proofs.YtidginchkjhobaaGreat
open Go.Ev Go.Num
theorem ou {i:Nat}(h:i<256):∃b,(0::1::2::2::3::3::3::3::4::4::4::4::4::4::4::4::5::5::5::5::5::5::5::5::5::5::5::5::5::5::5::5::6::6::6::6::6::6::6::6::6::6::6::6::6::6::6::6::6::6::6::6::6::6::6::6::6::6::6::6::6::6::6::6::7::7::7::7::7::7::7::7::7::7::7::7::7::7::7::7::7::7::7::7::7::7::7::7::7::7::7::7::7::7::7::7::7::7::7::7::7::7::7::7::7::7::7::7::7::7::7::7::7::7::7::7::7::7::7::7::7::7::7::7::7::7::7::7::8::8::8::8::8::8::8::8::8::8::8::8::8::8::8::8::8::8::8::8::8::8::8::8::8::8::8::8::8::8::8::8::8::8::8::8::8::8::8::8::8::8::8::8::8::8::8::8::8::8::8::8::8::8::8::8::8::8::8::8::8::8::8::8::8::8::8::8::8::8::8::8::8::8::8::8::8::8::8::8::8::8::8::8::8::8::8::8::8::8::8::8::8::8::8::8::8::8::8::8::8::8::8::8::8::8::8::8::8::8::8::8::8::8::8::8::8::8::8::8::8::8::8::8::8::8::8::8::[]:List Nat)[i]? =some b/\b<=8:=by
 generalize a:(0::1::2::2::3::3::3::3::4::4::4::4::4::4::4::4::5::5::5::5::5::5::5::5::5::5::5::5::5::5::5::5::6::6::6::6::6::6::6::6::6::6::6::6::6::6::6::6::6::6::6::6::6::6::6::6::6::6::6::6::6::6::6::6::7::7::7::7::7::7::7::7::7::7::7::7::7::7::7::7::7::7::7::7::7::7::7::7::7::7::7::7::7::7::7::7::7::7::7::7::7::7::7::7::7::7::7::7::7::7::7::7::7::7::7::7::7::7::7::7::7::7::7::7::7::7::7::7::8::8::8::8::8::8::8::8::8::8::8::8::8::8::8::8::8::8::8::8::8::8::8::8::8::8::8::8::8::8::8::8::8::8::8::8::8::8::8::8::8::8::8::8::8::8::8::8::8::8::8::8::8::8::8::8::8::8::8::8::8::8::8::8::8::8::8::8::8::8::8::8::8::8::8::8::8::8::8::8::8::8::8::8::8::8::8::8::8::8::8::8::8::8::8::8::8::8::8::8::8::8::8::8::8::8::8::8::8::8::8::8::8::8::8::8::8::8::8::8::8::8::8::8::8::8::8::8::[]:List Nat)=L;have e:L.length=256:=by subst a;rfl
 have c:L.all (fun b=>Nat.ble b 8)=true:=by subst a;rfl
 rw[ZW]at c;have d:i<L.length:=by rw[e];exact h
 exact⟨_,Zf d,WS (c _ (Yz d))⟩
theorem bR {a:List Nat}{i b:Nat}(c:a[i]? =some b)(k:IntKind):VR [.one (.p (.str a)),.one (.p (.int k (.ofNat i)))]=some ⟨.one (.p (.int .u8 (.ofNat b))),[],[],[]⟩:=by
 simp only[VR,c];rfl
theorem EJ (a:Nat):Qb .u64 (.ofNat a) (.ofNat 8)=some (.p (.int .u64 (.ofNat (a / 256)))):=rfl
theorem wrap_u8 {a:Nat}(h:a<256):Xe .u8 (.ofNat a)=.ofNat a:=by
 show Int.ofNat (a%256)=_;rw[Zg h]
theorem Oi {B:Xs}(d:Std B){n:Nat}(v:n<65536):∃l,l<100/\Xx B 187 [.one (.int .u64 (.ofNat n))] (.one (.int .i64 (.ofNat l))):=by
 have key:∃l,l<100/\Xx B 207 [.one (.int .u64 (.ofNat n))] (.one (.int .i64 (.ofNat l))):=by
  have p:¬4294967296<=n:=by omega
  have q:¬65536<=n:=by omega
  by_cases r:256<=n
  ·obtain⟨b,g,j⟩:=ou (i:=n / 256) (by omega);have e:Xe .i64 (.ofNat b)=.ofNat b:=wrap_i64 (by omega);have o:Xe .i64 (.ofNat (8+b))=.ofNat (8+b):=wrap_i64 (by omega);have f:Xe .u8 (.ofNat (n / 256))=.ofNat (n / 256):=wrap_u8 (by omega);refine⟨8+b,by omega,Xx.of (d.Wa _ _ rfl) (d.Xj.mono fun E K c=> ?_)⟩;have k:∀a,XK E .Th a=false:=fun _=>rfl
   have u:Xk E .Th=false:=rfl;have m:∀(b:Nat) (a:List DV) (h:HF) (n:Nat),X8 E b .Th a h n=VR a:=fun _ _ _ _=>rfl
   simp only[Xm,Xq,k,m,reduceIte,Nat.reduceEqDiff,Nat.reduceLeDiff,x207,p,q,r,EJ,bR g,e,o,f,w1]
  ·obtain⟨b,g,j⟩:=ou (i:=n) (by omega);have e:Xe .i64 (.ofNat b)=.ofNat b:=wrap_i64 (by omega);have o:Xe .i64 (.ofNat (0+b))=.ofNat b:=by rw[Z8];exact wrap_i64 (by omega)
   have f:Xe .u8 (.ofNat n)=.ofNat n:=wrap_u8 (by omega);refine⟨b,by omega,Xx.of (d.Wa _ _ rfl) (d.Xj.mono fun E K c=> ?_)⟩;have k:∀a,XK E .Th a=false:=fun _=>rfl
   have u:Xk E .Th=false:=rfl;have m:∀(b:Nat) (a:List DV) (h:HF) (n:Nat),X8 E b .Th a h n=VR a:=fun _ _ _ _=>rfl
   simp only[Xm,Xq,k,m,reduceIte,Nat.reduceEqDiff,Nat.reduceLeDiff,x207,p,q,r,bR g,e,f]
 obtain⟨l,t,s⟩:=key;refine⟨l,t,Xx.of (d.Wa _ _ rfl) ((s.Xj.and d.Xj).mono fun E K ⟨e1,c⟩=> ?_)⟩;simp only[Xm,Xq,reduceIte,Nat.reduceEqDiff,Nat.reduceLeDiff,x187,c,X5,e1]
theorem ic {B:Xs}(a:Std B){x y z u x2 y2 z2 u2:PL}{m n:List Nat}(c:m.length=8)(d:n.length=8):
  Xx B 166 [.agg (x::y::z::u::mo m),.agg (x2::y2::z2::u2::mo n)] (.one (.int .i64 (WL n m))):=by
 have e:=PT a d c;have f:(Xu m).take 8=Xu m:=Zd (by rw[Xc];omega);have g:(Xu n).take 8=Xu n:=Zd (by rw[Xc];omega);refine Xx.of (a.Wa _ _ rfl) ((e.Xj.and a.Xj).mono fun E K ⟨e1,b⟩=> ?_);simp only[Xm,Xq,Vg,reduceIte,Nat.reduceEqDiff,Nat.reduceLeDiff,Nat.reduceAdd,x166,b,X5,e1,Wk,Xc,c,d,f,g,Wb,Wf]
def vN:PL->Option Nat
 | .int .i64 (.ofNat n)=>bif Nat.ble n 65535 then some n else none
 |_=>none
def rj (c:List PL):Option (List Nat):=match c with
 |_::_::_::_::m=>bif Nat.beq m.length 8 then Xt vN m else none
 |_=>none
def VT (c:List PL):List Nat:=(rj c).getD []
def isTerm (c:List PL):Bool:=(rj c).isSome
theorem vM {l:PL}{n:Nat}(h:vN l=some n):l=.int .i64 (.ofNat n)/\n<=65535:=by
 unfold vN at h;split at h
 ·obtain⟨a,rfl⟩:=Xv h;exact⟨rfl,WS a⟩
 ·cases h
theorem tG:∀{l:List PL} {m:List Nat},Xt vN l=some m->l=mo m/\∀e∈m,e<=65535
 |[],m,h=>by cases h;exact⟨rfl,fun _ h=>by cases h⟩
 |x::l,m,h=>by
  simp only[Xt]at h;split at h
  ·cases h
  ·rename_i n f;split at h
   ·cases h
   ·rename_i g b;cases h;obtain⟨rfl,c⟩:=vM f;obtain⟨rfl,d⟩:=tG b;refine⟨rfl,fun e a=> ?_⟩;rcases Zj.1 a with rfl|a
    ·exact c
    ·exact d e a
theorem tK:∀{m:List Nat},(∀e∈m,e<=65535)->Xt vN (mo m)=some m
 |[],_=>rfl
 |e::m,h=>by
  have a:=tK (m:=m) fun x b=>h x (Zc _ b)
  unfold mo at a;have :Nat.ble e 65535=true:=RK (h e (Ze ..));simp only[mo,Zr,Xt,vN,this,cond_true,a]
theorem vR {c:List PL}{m:List Nat}(h:rj c=some m):∃x y z u,c=x::y::z::u::mo m/\XE m:=by
 unfold rj at h;split at h
 ·rename_i x y z u l;obtain⟨a,b⟩:=X3 h;obtain⟨rfl,d⟩:=tG b;refine⟨x,y,z,u,rfl,?_,d⟩;have:=Zl a;simpa[mo]using this
 ·cases h
theorem OD {x y z u:PL}{m:List Nat}(h:XE m):rj (x::y::z::u::mo m)=some m:=by
 have a:Nat.beq (mo m).length 8=true:=by rw[XI,h.1];rfl
 simp only[rj,a,cond_true,tK h.2]
theorem Wm {c:List PL}(h:isTerm c=true):∃x y z u,c=x::y::z::u::mo (VT c)/\XE (VT c):=by
 unfold isTerm at h;obtain⟨m,a⟩:=Option.isSome_iff_exists.1 h;unfold VT;rw[a];exact vR a
theorem vS {x y z u:PL}{m:List Nat}(h:XE m):VT (x::y::z::u::mo m)=m:=by
 unfold VT;rw[OD h];rfl
def S8 (x y:List PL):Int:=WL (VT y) (VT x)
def isNeg:Int->Bool
 | .negSucc _=>true
 |_=>false
theorem OI (z:Int):isNeg z=true↔z<0:=by
 cases z with
 |ofNat n=>simp[isNeg]
 |negSucc n=>simp only[isNeg,true_iff];omega
theorem Pg {m n:List Nat}:WL m n<0↔WL m n=.negSucc 0:=by
 rcases Vz m n with h|h|h<;>rw[h]<;>decide
theorem OO:∀(m n:List Nat),WL n m=.negSucc 0↔WL m n=.ofNat 1
 |[],[]=>by simp[WL]
 |[],_::_=>by simp[WL]
 |_::_,[]=>by simp[WL]
 |a::m,b::n=>by
  simp only[WL];by_cases d:b<a
  ·have c:¬a<b:=by omega
   simp[d,c]
  ·by_cases c:a<b
   ·simp[d,c]
   ·simp only[d,c,if_false];exact OO m n
theorem Nx:∀{l m n:List Nat},l.length=m.length->m.length=n.length->WL l m=.ofNat 1->WL m n=.ofNat 1->WL l n=.ofNat 1
 |[],_,_,_,_,h,_=>by simp[WL]at h
 |_::_,[],_,h,_,_,_=>by simp at h
 |_::_,_::_,[],_,h,_,_=>by simp at h
 |a::l,b::m,c::n,h1,h2,h3,h4=>by
  simp only[WL]at h3 h4⊢;by_cases d:a<b
  ·simp[d]at h3
  ·by_cases e:b<c
   ·simp[e]at h4
   ·by_cases f:b<a
    ·have :c<a:=by omega
     have :¬a<c:=by omega
     simp[*]
    ·by_cases g:c<b
     ·have :c<a:=by omega
      have :¬a<c:=by omega
      simp[*]
     ·simp only[d,f,if_false]at h3;simp only[e,g,if_false]at h4;have :¬a<c:=by omega
      have :¬c<a:=by omega
      simp only[*,if_false];exact Nx (by simpa using h1) (by simpa using h2) h3 h4
def ins (c:List PL):List (List PL)->List (List PL)
 |[]=>[c]
 |d::ds=>bif isNeg (S8 d c)then d::ins c ds else c::d::ds
def Tg:List (List PL)->List (List PL)
 |[]=>[]
 |c::cs=>ins c (Tg cs)
theorem fV (c:List PL):∀a,(ins c a).Perm (c::a)
 |[]=>.refl _
 |d::a=>by
  unfold ins;cases isNeg (S8 d c)with
  |true=>exact((fV c a).cons d).trans (.swap ..)
  |false=>exact .refl _
theorem Ud:∀a,(Tg a).Perm a
 |[]=>.refl _
 |c::a=>(fV c _).trans ((Ud a).cons c)
def Tk (cs:List (List PL)):Prop:=∀c∈cs,isTerm c=true
theorem Ag {x:List PL}:¬S8 x x<0:=by
 unfold S8;rw[QE];decide
theorem uu {x y z:List PL}(c:isTerm x=true)(d:isTerm y=true)(e:isTerm z=true)(a:S8 x y<0)(b:S8 y z<0):S8 x z<0:=by
 obtain⟨_,_,_,_,-,f,-⟩:=Wm c;obtain⟨_,_,_,_,-,g,-⟩:=Wm d;obtain⟨_,_,_,_,-,h,-⟩:=Wm e;unfold S8 at *;rw[Pg,OO]at *;exact Nx (by omega) (by omega) a b
theorem pJ {x y:List PL}(c:isTerm x=true)(d:isTerm y=true)(a:¬S8 x y<0)(b:¬S8 y x<0):VT x=VT y:=by
 obtain⟨_,_,_,_,-,e,-⟩:=Wm c;obtain⟨_,_,_,_,-,f,-⟩:=Wm d;unfold S8 at *;rw[Pg]at a b;rw[OO]at a;rcases Vz (VT x) (VT y)with h|h|h
 ·exact absurd h a
 ·exact absurd h b
 ·exact Su (by omega) h
theorem Af {x y z:List PL}(d:isTerm x=true)(f:isTerm y=true)(h:isTerm z=true)(g:¬S8 x y<0)(b:¬S8 y z<0):¬S8 x z<0:=by
 intro a;by_cases c:S8 y x<0
 ·exact b (uu f d h c a)
 ·have e:=pJ d f g c;exact b (by unfold S8 at a⊢;rw[<-e];exact a)
theorem fU {c:List PL}(i:isTerm c=true):∀{b:List (List PL)},Tk b->b.Pairwise (fun x y=>¬S8 y x<0)->(ins c b).Pairwise fun x y=>¬S8 y x<0
 |[],_,_=>by simp[ins]
 |d::b,l,h=>by
  have j:=l d (Ze ..);have f:Tk b:=fun x a=>l x (Zc _ a)
  obtain⟨k,m⟩:=Zv.1 h;unfold ins;cases g:isNeg (S8 d c)with
  |true=>
   rw[OI]at g;refine Zv.2 ⟨fun x a=> ?_,fU i f m⟩;rcases Zj.1 ((fV c b).mem_iff.1 a)with rfl|a
   ·intro n;exact Ag (uu j i j g n)
   ·exact k x a
  |false=>
   have e:¬S8 d c<0:=fun q=>by rw[<-OI]at q;rw[q]at g;cases g
   refine Zv.2 ⟨fun x a=> ?_,h⟩;rcases Zj.1 a with rfl|a
   ·exact e
   ·exact Af (f x a) j i (k x a) e
theorem cV {a:List (List PL)}(h:Tk a):Tk (Tg a):=fun c b=>h c ((Ud a).mem_iff.1 b)
theorem Rf:∀{a:List (List PL)},Tk a->(Tg a).Pairwise fun x y=>¬S8 y x<0
 |[],_=>.nil
 |c::a,h=>fU (h c (Ze ..)) (cV fun x b=>h x (Zc _ b)) (Rf fun x b=>h x (Zc _ b))
def hG (cs:List (List PL)):Prop:=∀x∈cs,∀y∈cs,VT x=VT y->x=y
theorem lH {a b:List (List PL)}(h:Tk a)(k:hG a)(f:b.Perm a):Tg b=Tg a:=by
 have l:Tk b:=fun c j=>h c (f.mem_iff.1 j)
 refine List.Perm.eq_of_pairwise (le:=fun x y=>¬S8 y x<0) (fun x y m n g i=> ?_) (Rf l) (Rf h) ((Ud b).trans (f.trans (Ud a).symm));have d:=f.mem_iff.1 ((Ud b).mem_iff.1 m);have e:=(Ud a).mem_iff.1 n;exact k x d y e (pJ (h x d) (h y e) i g)
def AL:DL->Option PL
 | .p l=>some l
 |_=>none
theorem ku:∀(l:List PL),Xt AL (l.map DL.p)=some l
 |[]=>rfl
 |x::l=>by simp only[Zr,Xt,AL,ku l]
theorem qp:∀(a:List (List PL)),Xt (Xt AL) (pc a)=some a
 |[]=>rfl
 |e::a=>by
  have:=qp a;unfold pc at this;simp only[pc,Zr,Xt,ku,this]
theorem kx:∀{l:List DL} {r:List PL},Xt AL l=some r->l=r.map DL.p
 |[],r,h=>by cases h;rfl
 |x::l,r,h=>by
  simp only[Xt]at h;split at h
  ·cases h
  ·rename_i y b;split at h
   ·cases h
   ·rename_i c a;cases h;rw[kx a];cases x<;>simp[AL]at b;subst b;rfl
theorem eD:∀{l:List (List DL)} {r:List (List PL)},Xt (Xt AL) l=some r->l=pc r
 |[],r,h=>by cases h;rfl
 |x::l,r,h=>by
  simp only[Xt]at h;split at h
  ·cases h
  ·rename_i y b;split at h
   ·cases h
   ·rename_i c a;cases h;rw[eD a,kx b];rfl
def UQ:List (List PL)->Bool
 |[]=>true
 |c::cs=>cs.all (fun d=> !(gz Nat.beq (VT c) (VT d)))&&UQ cs
theorem bZ:∀(m:List Nat),gz Nat.beq m m=true
 |[]=>rfl
 |a::m=>by simp[gz,bZ m]
theorem Sn:∀{a:List (List PL)},UQ a=true->hG a
 |[],_=>fun _ h=>by cases h
 |c::a,h=>by
  simp only[UQ,Zs,ZW,Yx]at h;obtain⟨b,f⟩:=h;have k:=Sn f;have key:∀d∈a,VT c≠VT d:=by
   intro d g e;have:=b d g;rw[e,bZ]at this;cases this
  intro x i y j e;rcases Zj.1 i with px|px<;>rcases Zj.1 j with py|py
  ·rw[px,py]
  ·rw[px]at e;exact absurd e (key y py)
  ·rw[py]at e;exact absurd e.symm (key x px)
  ·exact k x px y py e
def fx (args:List DV)(H:List Xz):Option (DV×List Xz):=
 match args with
 |[.one (.own i XX 0 n),.one (.p (.int .i64 (.ofNat 0))),.one (.p (.int .i64 (.ofNat n2))),.one (.p (.int .i64 (.ofNat lm))),.one (.p (.fn g []))]=>
  bif Nat.beq g 166&&Nat.blt lm 4611686018427387904 then
   match H[i]? with
   |some b=>match Xt (Xt AL) b.ch with
    |some es=>bif !b.mp&& !b.fz&&Nat.beq XX b.XX&&Nat.beq b.sz 12&&Nat.beq n es.length&&Nat.beq n2 es.length&&Nat.blt es.length 1000000&&es.all isTerm&&UQ es then some (.XZ [],H.set i {b with ch:=(Tg es).map (·.map .p)})else none
    |none=>none
   |none=>none
  else none
 |_=>none
theorem Vy:∀(o:List (List Int)) (m n:List Nat),WC o m n=.ofNat 1\/WC o m n=.negSucc 0\/WC o m n=.ofNat 0
 |[],m,n=>Vz m n
 |r::o,m,n=>by
  simp only[WC];by_cases a:wt r m<wt r n
  ·rw[if_pos a];exact .inr (.inl rfl)
  ·rw[if_neg a];by_cases b:wt r n<wt r m
   ·rw[if_pos b];exact .inl rfl
   ·rw[if_neg b];exact Vy o m n
theorem aJ {o:List (List Int)}{m n:List Nat}:WC o m n<0↔WC o m n=.negSucc 0:=by
 rcases Vy o m n with h|h|h<;>rw[h]<;>decide
theorem QD:∀{o:List (List Int)} {m n:List Nat},WC o n m=.negSucc 0↔WC o m n=.ofNat 1
 |[],m,n=>OO m n
 |r::o,m,n=>by
  simp only[WC];by_cases b:wt r m<wt r n
  ·have a:¬wt r n<wt r m:=by omega
   simp[b,a]
  ·by_cases a:wt r n<wt r m
   ·simp[b,a]
   ·simp only[b,a,if_false];exact QD
theorem Nw:∀{o:List (List Int)} {l m n:List Nat},l.length=m.length->m.length=n.length->WC o l m=.ofNat 1->WC o m n=.ofNat 1->WC o l n=.ofNat 1
 |[],_,_,_,h1,h2,h3,h4=>Nx h1 h2 h3 h4
 |r::o,l,m,n,h1,h2,h3,h4=>by
  simp only[WC]at h3 h4⊢;by_cases a:wt r l<wt r m
  ·simp[a]at h3
  ·by_cases b:wt r m<wt r n
   ·simp[b]at h4
   ·by_cases c:wt r m<wt r l
    ·have :wt r n<wt r l:=by omega
     have :¬wt r l<wt r n:=by omega
     simp[*]
    ·by_cases d:wt r n<wt r m
     ·have :wt r n<wt r l:=by omega
      have :¬wt r l<wt r n:=by omega
      simp[*]
     ·simp only[a,c,if_false]at h3;simp only[b,d,if_false]at h4;have :¬wt r l<wt r n:=by omega
      have :¬wt r n<wt r l:=by omega
      simp only[*,if_false];exact Nw h1 h2 h3 h4
theorem ON:∀{o:List (List Int)} {m n:List Nat},m.length=n.length->WC o m n=.ofNat 0->m=n
 |[],_,_,h,h0=>Su h h0
 |r::o,m,n,h,h0=>by
  simp only[WC]at h0;by_cases a:wt r m<wt r n
  ·simp[a]at h0
  ·by_cases b:wt r n<wt r m
   ·simp[a,b]at h0
   ·simp only[a,b,if_false]at h0;exact ON h h0
def UF (o:List (List Int))(x y:List PL):Int:=WC o (VT y) (VT x)
def fW (o:List (List Int))(c:List PL):List (List PL)->List (List PL)
 |[]=>[c]
 |d::ds=>bif isNeg (UF o d c)then d::fW o c ds else c::d::ds
def U7 (o:List (List Int)):List (List PL)->List (List PL)
 |[]=>[]
 |c::cs=>fW o c (U7 o cs)
variable {o:List (List Int)}
theorem bQ (c:List PL):∀a,(fW o c a).Perm (c::a)
 |[]=>.refl _
 |d::a=>by
  unfold fW;cases isNeg (UF o d c)with
  |true=>exact((bQ c a).cons d).trans (.swap ..)
  |false=>exact .refl _
theorem SS:∀a,(U7 o a).Perm a
 |[]=>.refl _
 |c::a=>(bQ c _).trans ((SS a).cons c)
theorem pH {x:List PL}:¬UF o x x<0:=by
 unfold UF;rw[QC];decide
theorem lW {x y z:List PL}(c:isTerm x=true)(d:isTerm y=true)(e:isTerm z=true)(a:UF o x y<0)(b:UF o y z<0):UF o x z<0:=by
 obtain⟨_,_,_,_,-,f,-⟩:=Wm c;obtain⟨_,_,_,_,-,g,-⟩:=Wm d;obtain⟨_,_,_,_,-,h,-⟩:=Wm e;unfold UF at *;rw[aJ,QD]at *;exact Nw (by omega) (by omega) a b
theorem pE {x y:List PL}(c:isTerm x=true)(d:isTerm y=true)(a:¬UF o x y<0)(b:¬UF o y x<0):VT x=VT y:=by
 obtain⟨_,_,_,_,-,e,-⟩:=Wm c;obtain⟨_,_,_,_,-,f,-⟩:=Wm d;unfold UF at *;rw[aJ]at a b;rw[QD]at a;rcases Vy o (VT x) (VT y)with h|h|h
 ·exact absurd h a
 ·exact absurd h b
 ·exact ON (by omega) h
theorem pG {x y z:List PL}(d:isTerm x=true)(f:isTerm y=true)(h:isTerm z=true)(g:¬UF o x y<0)(b:¬UF o y z<0):¬UF o x z<0:=by
 intro a;by_cases c:UF o y x<0
 ·exact b (lW f d h c a)
 ·have e:=pE d f g c;exact b (by unfold UF at a⊢;rw[<-e];exact a)
theorem cX {c:List PL}(i:isTerm c=true):∀{b:List (List PL)},Tk b->b.Pairwise (fun x y=>¬UF o y x<0)->(fW o c b).Pairwise fun x y=>¬UF o y x<0
 |[],_,_=>by simp[fW]
 |d::b,l,h=>by
  have j:=l d (Ze ..);have f:Tk b:=fun x a=>l x (Zc _ a)
  obtain⟨k,m⟩:=Zv.1 h;unfold fW;cases g:isNeg (UF o d c)with
  |true=>
   rw[OI]at g;refine Zv.2 ⟨fun x a=> ?_,cX i f m⟩;rcases Zj.1 ((bQ c b).mem_iff.1 a)with rfl|a
   ·intro n;exact pH (lW j i j g n)
   ·exact k x a
  |false=>
   have e:¬UF o d c<0:=fun q=>by rw[<-OI]at q;rw[q]at g;cases g
   refine Zv.2 ⟨fun x a=> ?_,h⟩;rcases Zj.1 a with rfl|a
   ·exact e
   ·exact pG (f x a) j i (k x a) e
theorem lI {a:List (List PL)}(h:Tk a):Tk (U7 o a):=fun c b=>h c ((SS a).mem_iff.1 b)
theorem R9:∀{a:List (List PL)},Tk a->(U7 o a).Pairwise fun x y=>¬UF o y x<0
 |[],_=>.nil
 |c::a,h=>cX (h c (Ze ..)) (lI fun x b=>h x (Zc _ b)) (R9 fun x b=>h x (Zc _ b))
end Go.Proofs.YtidginchkjhobaaGreat
