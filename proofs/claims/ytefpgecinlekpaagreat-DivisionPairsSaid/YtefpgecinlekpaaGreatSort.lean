/- The order of the terms of a polynomial: the comparison, the one sorted list, and what the library's sort answers. -/
import Derived.Test.YtefpgecinlekpaaGreatPol
import Derived.Test.YtefpgecinlekpaaGreatQOrd
set_option maxHeartbeats 16000000
set_option maxRecDepth 100000
namespace Go.Proofs.YtefpgecinlekpaaGreat
open Go.Ev Go.Num
theorem len8_get {i:Nat}(h:i<256):∃b,(0::1::2::2::3::3::3::3::4::4::4::4::4::4::4::4::5::5::5::5::5::5::5::5::5::5::5::5::5::5::5::5::6::6::6::6::6::6::6::6::6::6::6::6::6::6::6::6::6::6::6::6::6::6::6::6::6::6::6::6::6::6::6::6::7::7::7::7::7::7::7::7::7::7::7::7::7::7::7::7::7::7::7::7::7::7::7::7::7::7::7::7::7::7::7::7::7::7::7::7::7::7::7::7::7::7::7::7::7::7::7::7::7::7::7::7::7::7::7::7::7::7::7::7::7::7::7::7::8::8::8::8::8::8::8::8::8::8::8::8::8::8::8::8::8::8::8::8::8::8::8::8::8::8::8::8::8::8::8::8::8::8::8::8::8::8::8::8::8::8::8::8::8::8::8::8::8::8::8::8::8::8::8::8::8::8::8::8::8::8::8::8::8::8::8::8::8::8::8::8::8::8::8::8::8::8::8::8::8::8::8::8::8::8::8::8::8::8::8::8::8::8::8::8::8::8::8::8::8::8::8::8::8::8::8::8::8::8::8::8::8::8::8::8::8::8::8::8::8::8::8::8::8::8::8::8::[]:List Nat)[i]? =some b/\b<=8:=by
 generalize hL:(0::1::2::2::3::3::3::3::4::4::4::4::4::4::4::4::5::5::5::5::5::5::5::5::5::5::5::5::5::5::5::5::6::6::6::6::6::6::6::6::6::6::6::6::6::6::6::6::6::6::6::6::6::6::6::6::6::6::6::6::6::6::6::6::7::7::7::7::7::7::7::7::7::7::7::7::7::7::7::7::7::7::7::7::7::7::7::7::7::7::7::7::7::7::7::7::7::7::7::7::7::7::7::7::7::7::7::7::7::7::7::7::7::7::7::7::7::7::7::7::7::7::7::7::7::7::7::7::8::8::8::8::8::8::8::8::8::8::8::8::8::8::8::8::8::8::8::8::8::8::8::8::8::8::8::8::8::8::8::8::8::8::8::8::8::8::8::8::8::8::8::8::8::8::8::8::8::8::8::8::8::8::8::8::8::8::8::8::8::8::8::8::8::8::8::8::8::8::8::8::8::8::8::8::8::8::8::8::8::8::8::8::8::8::8::8::8::8::8::8::8::8::8::8::8::8::8::8::8::8::8::8::8::8::8::8::8::8::8::8::8::8::8::8::8::8::8::8::8::8::8::8::8::8::8::8::[]:List Nat)=L
 have hl:L.length=256:=by subst hL;rfl
 have hb:L.all (fun b=>Nat.ble b 8)=true:=by subst hL;rfl
 rw[ZS]at hb
 have hi:i<L.length:=by rw[hl];exact h
 exact⟨_,Zf hi,X8 (hb _ (YN hi))⟩
theorem idx_of {bs:List Nat}{i b:Nat}(hb:bs[i]? =some b)(k:IntKind):WU [.one (.p (.str bs)),.one (.p (.int k (.ofNat i)))]=some ⟨.one (.p (.int .u8 (.ofNat b))),[],[],[]⟩:=by
 simp only[WU,hb];rfl
theorem shr_8 (a:Nat):Sh .u64 (.ofNat a) (.ofNat 8)=some (.p (.int .u64 (.ofNat (a / 256)))):=rfl
theorem wrap_u8 {a:Nat}(h:a<256):Xd .u8 (.ofNat a)=.ofNat a:=by
 show Int.ofNat (a%256)=_
 rw[Zb h]
theorem bitsLen_ret {B:Base}(hB:Std B){n:Nat}(hn:n<65536):∃l,l<100/\Ret B 141 [.one (.int .u64 (.ofNat n))] (.one (.int .i64 (.ofNat l))):=by
 have key:∃l,l<100/\Ret B 169 [.one (.int .u64 (.ofNat n))] (.one (.int .i64 (.ofNat l))):=by
  have h1:¬4294967296<=n:=by omega
  have h2:¬65536<=n:=by omega
  by_cases h3:256<=n
  ·obtain⟨b,hb,hb8⟩:=len8_get (i:=n / 256) (by omega)
   have f0:Xd .i64 (.ofNat b)=.ofNat b:=wrap_i64 (by omega)
   have f1:Xd .i64 (.ofNat (8+b))=.ofNat (8+b):=wrap_i64 (by omega)
   have f2:Xd .u8 (.ofNat (n / 256))=.ofNat (n / 256):=wrap_u8 (by omega)
   refine⟨8+b,by omega,Ret.of (hB.tab _ _ rfl) (hB.evt.mono fun E K hmd=> ?_)⟩
   have q1:∀vs,Xq E .indexStr vs=false:=fun _=>rfl
   have q2:Xf E .indexStr=false:=rfl
   have q3:∀(b:Nat) (vs:List DV) (h:HF) (n:Nat),XC E b .indexStr vs h n=WU vs:=fun _ _ _ _=>rfl
   simp only[EVS,EVN,q1,q3,reduceIte,Nat.reduceEqDiff,Nat.reduceLeDiff,x169,h1,h2,h3,shr_8,idx_of hb,f0,f1,f2,w1]
  ·obtain⟨b,hb,hb8⟩:=len8_get (i:=n) (by omega)
   have f0:Xd .i64 (.ofNat b)=.ofNat b:=wrap_i64 (by omega)
   have f1:Xd .i64 (.ofNat (0+b))=.ofNat b:=by rw[ZY];exact wrap_i64 (by omega)
   have f2:Xd .u8 (.ofNat n)=.ofNat n:=wrap_u8 (by omega)
   refine⟨b,by omega,Ret.of (hB.tab _ _ rfl) (hB.evt.mono fun E K hmd=> ?_)⟩
   have q1:∀vs,Xq E .indexStr vs=false:=fun _=>rfl
   have q2:Xf E .indexStr=false:=rfl
   have q3:∀(b:Nat) (vs:List DV) (h:HF) (n:Nat),XC E b .indexStr vs h n=WU vs:=fun _ _ _ _=>rfl
   simp only[EVS,EVN,q1,q3,reduceIte,Nat.reduceEqDiff,Nat.reduceLeDiff,x169,h1,h2,h3,idx_of hb,f0,f2]
 obtain⟨l,hl,hk⟩:=key
 refine⟨l,hl,Ret.of (hB.tab _ _ rfl) ((hk.evt.and hB.evt).mono fun E K ⟨e1,hmd⟩=> ?_)⟩
 simp only[EVS,EVN,reduceIte,Nat.reduceEqDiff,Nat.reduceLeDiff,x141,hmd,MDS,e1]
theorem sortedCmp_ret {B:Base}(hB:Std B){x y z u x2 y2 z2 u2:PL}{m n:List Nat}(hm:m.length=8)(hn:n.length=8):
  Ret B 134 [.agg (x::y::z::u::mo m),.agg (x2::y2::z2::u2::mo n)] (.one (.int .i64 (XS n m))):=by
 have hc:=TX hB hn hm
 have tm:(moD m).take 8=moD m:=Zd (by rw[Xa];omega)
 have tn:(moD n).take 8=moD n:=Zd (by rw[Xa];omega)
 refine Ret.of (hB.tab _ _ rfl) ((hc.evt.and hB.evt).mono fun E K ⟨e1,hmd⟩=> ?_)
 simp only[EVS,EVN,EVF,reduceIte,Nat.reduceEqDiff,Nat.reduceLeDiff,Nat.reduceAdd,x134,hmd,MDS,e1,XZ,Xa,hm,hn,tm,tn,XJ,XM]
def natO:PL->Option Nat
 | .int .i64 (.ofNat n)=>bif Nat.ble n 65535 then some n else none
 |_=>none
def monO (c:List PL):Option (List Nat):=match c with
 |_::_::_::_::m=>bif Nat.beq m.length 8 then Xm natO m else none
 |_=>none
def S0 (c:List PL):List Nat:=(monO c).getD []
def isTerm (c:List PL):Bool:=(monO c).isSome
theorem natO_spec {l:PL}{n:Nat}(h:natO l=some n):l=.int .i64 (.ofNat n)/\n<=65535:=by
 unfold natO at h
 split at h
 ·obtain⟨h1,rfl⟩:=Xk h
  exact⟨rfl,X8 h1⟩
 ·cases h
theorem natO_mo:∀{l:List PL} {m:List Nat},Xm natO l=some m->l=mo m/\∀e∈m,e<=65535
 |[],m,h=>by cases h;exact⟨rfl,fun _ h=>by cases h⟩
 |x::l,m,h=>by
  simp only[Xm]at h
  split at h
  ·cases h
  ·rename_i n hn
   split at h
   ·cases h
   ·rename_i ns hns
    cases h
    obtain⟨rfl,h1⟩:=natO_spec hn
    obtain⟨rfl,h2⟩:=natO_mo hns
    refine⟨rfl,fun e he=> ?_⟩
    rcases Zj.1 he with rfl|he
    ·exact h1
    ·exact h2 e he
theorem mapO_mo:∀{m:List Nat},(∀e∈m,e<=65535)->Xm natO (mo m)=some m
 |[],_=>rfl
 |e::m,h=>by
  have ih:=mapO_mo (m:=m) fun x hx=>h x (Zc _ hx)
  unfold mo at ih
  have :Nat.ble e 65535=true:=T7 (h e (Zh ..))
  simp only[mo,Zu,Xm,natO,this,cond_true,ih]
theorem monO_spec {c:List PL}{m:List Nat}(h:monO c=some m):∃x y z u,c=x::y::z::u::mo m/\Xx m:=by
 unfold monO at h
 split at h
 ·rename_i x y z u l
  obtain⟨h1,h2⟩:=Xz h
  obtain⟨rfl,h3⟩:=natO_mo h2
  refine⟨x,y,z,u,rfl,?_,h3⟩
  have:=Zi h1
  simpa[mo]using this
 ·cases h
theorem monO_term {x y z u:PL}{m:List Nat}(h:Xx m):monO (x::y::z::u::mo m)=some m:=by
 have h1:Nat.beq (mo m).length 8=true:=by rw[Xr,h.1];rfl
 simp only[monO,h1,cond_true,mapO_mo h.2]
theorem WQ {c:List PL}(h:isTerm c=true):∃x y z u,c=x::y::z::u::mo (S0 c)/\Xx (S0 c):=by
 unfold isTerm at h
 obtain⟨m,hm⟩:=Option.isSome_iff_exists.1 h
 unfold S0
 rw[hm]
 exact monO_spec hm
def cmpS (x y:List PL):Int:=XS (S0 y) (S0 x)
def isNeg:Int->Bool
 | .negSucc _=>true
 |_=>false
theorem isNeg_iff (z:Int):isNeg z=true↔z<0:=by
 cases z with
 |ofNat n=>simp[isNeg]
 |negSucc n=>simp only[isNeg,true_iff];omega
theorem cmpL_flip:∀(m n:List Nat),XS n m=.negSucc 0↔XS m n=.ofNat 1
 |[],[]=>by simp[XS]
 |[],_::_=>by simp[XS]
 |_::_,[]=>by simp[XS]
 |a::m,b::n=>by
  simp only[XS]
  by_cases h1:b<a
  ·have h2:¬a<b:=by omega
   simp[h1,h2]
  ·by_cases h2:a<b
   ·simp[h1,h2]
   ·simp only[h1,h2,if_false];exact cmpL_flip m n
theorem cmpL_trans:∀{l m n:List Nat},l.length=m.length->m.length=n.length->XS l m=.ofNat 1->XS m n=.ofNat 1->XS l n=.ofNat 1
 |[],_,_,_,_,h,_=>by simp[XS]at h
 |_::_,[],_,h,_,_,_=>by simp at h
 |_::_,_::_,[],_,h,_,_=>by simp at h
 |a::l,b::m,c::n,h1,h2,h3,h4=>by
  simp only[XS]at h3 h4⊢
  by_cases q1:a<b
  ·simp[q1]at h3
  ·by_cases q2:b<c
   ·simp[q2]at h4
   ·by_cases q3:b<a
    ·have :c<a:=by omega
     have :¬a<c:=by omega
     simp[*]
    ·by_cases q4:c<b
     ·have :c<a:=by omega
      have :¬a<c:=by omega
      simp[*]
     ·simp only[q1,q3,if_false]at h3
      simp only[q2,q4,if_false]at h4
      have :¬a<c:=by omega
      have :¬c<a:=by omega
      simp only[*,if_false]
      exact cmpL_trans (by simpa using h1) (by simpa using h2) h3 h4
def ins (c:List PL):List (List PL)->List (List PL)
 |[]=>[c]
 |d::ds=>bif isNeg (cmpS d c)then d::ins c ds else c::d::ds
def Terms (cs:List (List PL)):Prop:=∀c∈cs,isTerm c=true
def Distinct (cs:List (List PL)):Prop:=∀x∈cs,∀y∈cs,S0 x=S0 y->x=y
def unP:DL->Option PL
 | .p l=>some l
 |_=>none
theorem unP_map:∀(l:List PL),Xm unP (l.map DL.p)=some l
 |[]=>rfl
 |x::l=>by simp only[Zu,Xm,unP,unP_map l]
theorem unP_pc:∀(es:List (List PL)),Xm (Xm unP) (pc es)=some es
 |[]=>rfl
 |e::es=>by
  have:=unP_pc es
  unfold pc at this
  simp only[pc,Zu,Xm,unP_map,this]
theorem unP_inv:∀{l:List DL} {r:List PL},Xm unP l=some r->l=r.map DL.p
 |[],r,h=>by cases h;rfl
 |x::l,r,h=>by
  simp only[Xm]at h
  split at h
  ·cases h
  ·rename_i y hy
   split at h
   ·cases h
   ·rename_i ys hys
    cases h
    rw[unP_inv hys]
    cases x<;>simp[unP]at hy
    subst hy;rfl
theorem unPc_inv:∀{l:List (List DL)} {r:List (List PL)},Xm (Xm unP) l=some r->l=pc r
 |[],r,h=>by cases h;rfl
 |x::l,r,h=>by
  simp only[Xm]at h
  split at h
  ·cases h
  ·rename_i y hy
   split at h
   ·cases h
   ·rename_i ys hys
    cases h
    rw[unPc_inv hys,unP_inv hy];rfl
def noDup:List (List PL)->Bool
 |[]=>true
 |c::cs=>cs.all (fun d=> !(eqLs Nat.beq (S0 c) (S0 d)))&&noDup cs
theorem eqLs_self:∀(m:List Nat),eqLs Nat.beq m m=true
 |[]=>rfl
 |a::m=>by simp[eqLs,eqLs_self m]
theorem noDup_spec:∀{cs:List (List PL)},noDup cs=true->Distinct cs
 |[],_=>fun _ h=>by cases h
 |c::cs,h=>by
  simp only[noDup,Zo,ZS,YA]at h
  obtain⟨h1,h2⟩:=h
  have ih:=noDup_spec h2
  have key:∀d∈cs,S0 c≠S0 d:=by
   intro d hd e
   have:=h1 d hd
   rw[e,eqLs_self]at this;cases this
  intro x hx y hy e
  rcases Zj.1 hx with px|px<;>rcases Zj.1 hy with py|py
  ·rw[px,py]
  ·rw[px]at e;exact absurd e (key y py)
  ·rw[py]at e;exact absurd e.symm (key x px)
  ·exact ih x px y py e
theorem Vc:∀(o:List (List Int)) (m n:List Nat),X9 o m n=.ofNat 1\/X9 o m n=.negSucc 0\/X9 o m n=.ofNat 0
 |[],m,n=>WA m n
 |r::o,m,n=>by
  simp only[X9]
  by_cases h1:wt r m<wt r n
  ·rw[if_pos h1];exact .inr (.inl rfl)
  ·rw[if_neg h1]
   by_cases h2:wt r n<wt r m
   ·rw[if_pos h2];exact .inl rfl
   ·rw[if_neg h2];exact Vc o m n
theorem cmpO_neg_iff {o:List (List Int)}{m n:List Nat}:X9 o m n<0↔X9 o m n=.negSucc 0:=by
 rcases Vc o m n with h|h|h<;>rw[h]<;>decide
theorem Tv:∀{o:List (List Int)} {m n:List Nat},X9 o n m=.negSucc 0↔X9 o m n=.ofNat 1
 |[],m,n=>cmpL_flip m n
 |r::o,m,n=>by
  simp only[X9]
  by_cases h1:wt r m<wt r n
  ·have h2:¬wt r n<wt r m:=by omega
   simp[h1,h2]
  ·by_cases h2:wt r n<wt r m
   ·simp[h1,h2]
   ·simp only[h1,h2,if_false];exact Tv
theorem cmpO_trans:∀{o:List (List Int)} {l m n:List Nat},l.length=m.length->m.length=n.length->X9 o l m=.ofNat 1->X9 o m n=.ofNat 1->X9 o l n=.ofNat 1
 |[],_,_,_,h1,h2,h3,h4=>cmpL_trans h1 h2 h3 h4
 |r::o,l,m,n,h1,h2,h3,h4=>by
  simp only[X9]at h3 h4⊢
  by_cases q1:wt r l<wt r m
  ·simp[q1]at h3
  ·by_cases q2:wt r m<wt r n
   ·simp[q2]at h4
   ·by_cases q3:wt r m<wt r l
    ·have :wt r n<wt r l:=by omega
     have :¬wt r l<wt r n:=by omega
     simp[*]
    ·by_cases q4:wt r n<wt r m
     ·have :wt r n<wt r l:=by omega
      have :¬wt r l<wt r n:=by omega
      simp[*]
     ·simp only[q1,q3,if_false]at h3
      simp only[q2,q4,if_false]at h4
      have :¬wt r l<wt r n:=by omega
      have :¬wt r n<wt r l:=by omega
      simp only[*,if_false]
      exact cmpO_trans h1 h2 h3 h4
theorem cmpO_zero:∀{o:List (List Int)} {m n:List Nat},m.length=n.length->X9 o m n=.ofNat 0->m=n
 |[],_,_,h,h0=>UL h h0
 |r::o,m,n,h,h0=>by
  simp only[X9]at h0
  by_cases h1:wt r m<wt r n
  ·simp[h1]at h0
  ·by_cases h2:wt r n<wt r m
   ·simp[h1,h2]at h0
   ·simp only[h1,h2,if_false]at h0;exact cmpO_zero h h0
def Vx (o:List (List Int))(x y:List PL):Int:=X9 o (S0 y) (S0 x)
def insO (o:List (List Int))(c:List PL):List (List PL)->List (List PL)
 |[]=>[c]
 |d::ds=>bif isNeg (Vx o d c)then d::insO o c ds else c::d::ds
def Uq (o:List (List Int)):List (List PL)->List (List PL)
 |[]=>[]
 |c::cs=>insO o c (Uq o cs)
variable {o:List (List Int)}
theorem insO_perm (c:List PL):∀ds,(insO o c ds).Perm (c::ds)
 |[]=>.refl _
 |d::ds=>by
  unfold insO
  cases isNeg (Vx o d c)with
  |true=>exact((insO_perm c ds).cons d).trans (.swap ..)
  |false=>exact .refl _
theorem U7:∀cs,(Uq o cs).Perm cs
 |[]=>.refl _
 |c::cs=>(insO_perm c _).trans ((U7 cs).cons c)
theorem cmpT_irr {x:List PL}:¬Vx o x x<0:=by
 unfold Vx;rw[cmpO_self];decide
theorem cmpT_tr {x y z:List PL}(hx:isTerm x=true)(hy:isTerm y=true)(hz:isTerm z=true)(h1:Vx o x y<0)(h2:Vx o y z<0):Vx o x z<0:=by
 obtain⟨_,_,_,_,-,l1,-⟩:=WQ hx
 obtain⟨_,_,_,_,-,l2,-⟩:=WQ hy
 obtain⟨_,_,_,_,-,l3,-⟩:=WQ hz
 unfold Vx at *
 rw[cmpO_neg_iff,Tv]at *
 exact cmpO_trans (by omega) (by omega) h1 h2
theorem cmpT_tot {x y:List PL}(hx:isTerm x=true)(hy:isTerm y=true)(h1:¬Vx o x y<0)(h2:¬Vx o y x<0):S0 x=S0 y:=by
 obtain⟨_,_,_,_,-,l1,-⟩:=WQ hx
 obtain⟨_,_,_,_,-,l2,-⟩:=WQ hy
 unfold Vx at *
 rw[cmpO_neg_iff]at h1 h2
 rw[Tv]at h1
 rcases Vc o (S0 x) (S0 y)with h|h|h
 ·exact absurd h h1
 ·exact absurd h h2
 ·exact cmpO_zero (by omega) h
theorem cmpT_ntr {x y z:List PL}(hx:isTerm x=true)(hy:isTerm y=true)(hz:isTerm z=true)(h1:¬Vx o x y<0)(h2:¬Vx o y z<0):¬Vx o x z<0:=by
 intro h3
 by_cases h4:Vx o y x<0
 ·exact h2 (cmpT_tr hy hx hz h4 h3)
 ·have e:=cmpT_tot hx hy h1 h4
  exact h2 (by unfold Vx at h3⊢;rw[<-e];exact h3)
theorem insO_sorted {c:List PL}(hc:isTerm c=true):∀{ds:List (List PL)},Terms ds->ds.Pairwise (fun x y=>¬Vx o y x<0)->(insO o c ds).Pairwise fun x y=>¬Vx o y x<0
 |[],_,_=>by simp[insO]
 |d::ds,ht,h=>by
  have hd:=ht d (Zh ..)
  have ht':Terms ds:=fun x hx=>ht x (Zc _ hx)
  obtain⟨h1,h2⟩:=Zt.1 h
  unfold insO
  cases hn:isNeg (Vx o d c)with
  |true=>
   rw[isNeg_iff]at hn
   refine Zt.2 ⟨fun x hx=> ?_,insO_sorted hc ht' h2⟩
   rcases Zj.1 ((insO_perm c ds).mem_iff.1 hx)with rfl|hx
   ·intro hq;exact cmpT_irr (cmpT_tr hd hc hd hn hq)
   ·exact h1 x hx
  |false=>
   have hn':¬Vx o d c<0:=fun q=>by rw[<-isNeg_iff]at q;rw[q]at hn;cases hn
   refine Zt.2 ⟨fun x hx=> ?_,h⟩
   rcases Zj.1 hx with rfl|hx
   ·exact hn'
   ·exact cmpT_ntr (ht' x hx) hd hc (h1 x hx) hn'
theorem isortO_terms {cs:List (List PL)}(h:Terms cs):Terms (Uq o cs):=fun c hc=>h c ((U7 cs).mem_iff.1 hc)
theorem Se:∀{cs:List (List PL)},Terms cs->(Uq o cs).Pairwise fun x y=>¬Vx o y x<0
 |[],_=>.nil
 |c::cs,h=>insO_sorted (h c (Zh ..)) (isortO_terms fun x hx=>h x (Zc _ hx)) (Se fun x hx=>h x (Zc _ hx))
end Go.Proofs.YtefpgecinlekpaaGreat
