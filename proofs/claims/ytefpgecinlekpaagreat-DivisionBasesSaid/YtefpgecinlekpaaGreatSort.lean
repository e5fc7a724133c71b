/- The order of the terms of a polynomial: the comparison, the one sorted list, and what the library's sort answers. -/
import Derived.Test.YtefpgecinlekpaaGreatPol
import Derived.Test.YtefpgecinlekpaaGreatQOrd
set_option maxHeartbeats 16000000
set_option maxRecDepth 100000
namespace Go.Proofs.YtefpgecinlekpaaGreat
open Go.Ev Go.Num
theorem len8_get {i:Nat}(h:i<256):∃b,(0::1::2::2::3::3::3::3::4::4::4::4::4::4::4::4::5::5::5::5::5::5::5::5::5::5::5::5::5::5::5::5::6::6::6::6::6::6::6::6::6::6::6::6::6::6::6::6::6::6::6::6::6::6::6::6::6::6::6::6::6::6::6::6::7::7::7::7::7::7::7::7::7::7::7::7::7::7::7::7::7::7::7::7::7::7::7::7::7::7::7::7::7::7::7::7::7::7::7::7::7::7::7::7::7::7::7::7::7::7::7::7::7::7::7::7::7::7::7::7::7::7::7::7::7::7::7::7::8::8::8::8::8::8::8::8::8::8::8::8::8::8::8::8::8::8::8::8::8::8::8::8::8::8::8::8::8::8::8::8::8::8::8::8::8::8::8::8::8::8::8::8::8::8::8::8::8::8::8::8::8::8::8::8::8::8::8::8::8::8::8::8::8::8::8::8::8::8::8::8::8::8::8::8::8::8::8::8::8::8::8::8::8::8::8::8::8::8::8::8::8::8::8::8::8::8::8::8::8::8::8::8::8::8::8::8::8::8::8::8::8::8::8::8::8::8::8::8::8::8::8::8::8::8::8::8::[]:List Nat)[i]? =some b/\b<=8:=by
 generalize hL:(0::1::2::2::3::3::3::3::4::4::4::4::4::4::4::4::5::5::5::5::5::5::5::5::5::5::5::5::5::5::5::5::6::6::6::6::6::6::6::6::6::6::6::6::6::6::6::6::6::6::6::6::6::6::6::6::6::6::6::6::6::6::6::6::7::7::7::7::7::7::7::7::7::7::7::7::7::7::7::7::7::7::7::7::7::7::7::7::7::7::7::7::7::7::7::7::7::7::7::7::7::7::7::7::7::7::7::7::7::7::7::7::7::7::7::7::7::7::7::7::7::7::7::7::7::7::7::7::8::8::8::8::8::8::8::8::8::8::8::8::8::8::8::8::8::8::8::8::8::8::8::8::8::8::8::8::8::8::8::8::8::8::8::8::8::8::8::8::8::8::8::8::8::8::8::8::8::8::8::8::8::8::8::8::8::8::8::8::8::8::8::8::8::8::8::8::8::8::8::8::8::8::8::8::8::8::8::8::8::8::8::8::8::8::8::8::8::8::8::8::8::8::8::8::8::8::8::8::8::8::8::8::8::8::8::8::8::8::8::8::8::8::8::8::8::8::8::8::8::8::8::8::8::8::8::8::[]:List Nat)=L
 have hl:L.length=256:=by subst hL;rfl
 have hb:L.all (fun b=>Nat.ble b 8)=true:=by subst hL;rfl
 rw[ZP]at hb
 have hi:i<L.length:=by rw[hl];exact h
 exact⟨_,Zf hi,Wb (hb _ (YP hi))⟩
theorem idx_of {bs:List Nat}{i b:Nat}(hb:bs[i]? =some b)(k:IntKind):W8 [.one (.p (.str bs)),.one (.p (.int k (.ofNat i)))]=some ⟨.one (.p (.int .u8 (.ofNat b))),[],[],[]⟩:=by
 simp only[W8,hb];rfl
theorem shr_8 (a:Nat):Sf .u64 (.ofNat a) (.ofNat 8)=some (.p (.int .u64 (.ofNat (a / 256)))):=rfl
theorem wrap_u8 {a:Nat}(h:a<256):Xd .u8 (.ofNat a)=.ofNat a:=by
 show Int.ofNat (a%256)=_
 rw[Zd h]
theorem T6 {B:Base}(hB:Std B){n:Nat}(hn:n<65536):∃l,l<100/\Ret B 141 [.one (.int .u64 (.ofNat n))] (.one (.int .i64 (.ofNat l))):=by
 have key:∃l,l<100/\Ret B 169 [.one (.int .u64 (.ofNat n))] (.one (.int .i64 (.ofNat l))):=by
  have h1:¬4294967296<=n:=by omega
  have h2:¬65536<=n:=by omega
  by_cases h3:256<=n
  ·obtain⟨b,hb,hb8⟩:=len8_get (i:=n / 256) (by omega)
   have f0:Xd .i64 (.ofNat b)=.ofNat b:=wrap_i64 (by omega)
   have f1:Xd .i64 (.ofNat (8+b))=.ofNat (8+b):=wrap_i64 (by omega)
   have f2:Xd .u8 (.ofNat (n / 256))=.ofNat (n / 256):=wrap_u8 (by omega)
   refine⟨8+b,by omega,Ret.of (hB.tab _ _ rfl) (hB.evt.mono fun E K hmd=> ?_)⟩
   have q1:∀vs,Xr E .indexStr vs=false:=fun _=>rfl
   have q2:Xe E .indexStr=false:=rfl
   have q3:∀(b:Nat) (vs:List DV) (h:HF) (n:Nat),XG E b .indexStr vs h n=W8 vs:=fun _ _ _ _=>rfl
   simp only[EVS,EVN,q1,q3,reduceIte,Nat.reduceEqDiff,Nat.reduceLeDiff,x169,h1,h2,h3,shr_8,idx_of hb,f0,f1,f2,w1]
  ·obtain⟨b,hb,hb8⟩:=len8_get (i:=n) (by omega)
   have f0:Xd .i64 (.ofNat b)=.ofNat b:=wrap_i64 (by omega)
   have f1:Xd .i64 (.ofNat (0+b))=.ofNat b:=by rw[ZY];exact wrap_i64 (by omega)
   have f2:Xd .u8 (.ofNat n)=.ofNat n:=wrap_u8 (by omega)
   refine⟨b,by omega,Ret.of (hB.tab _ _ rfl) (hB.evt.mono fun E K hmd=> ?_)⟩
   have q1:∀vs,Xr E .indexStr vs=false:=fun _=>rfl
   have q2:Xe E .indexStr=false:=rfl
   have q3:∀(b:Nat) (vs:List DV) (h:HF) (n:Nat),XG E b .indexStr vs h n=W8 vs:=fun _ _ _ _=>rfl
   simp only[EVS,EVN,q1,q3,reduceIte,Nat.reduceEqDiff,Nat.reduceLeDiff,x169,h1,h2,h3,idx_of hb,f0,f2]
 obtain⟨l,hl,hk⟩:=key
 refine⟨l,hl,Ret.of (hB.tab _ _ rfl) ((hk.evt.and hB.evt).mono fun E K ⟨e1,hmd⟩=> ?_)⟩
 simp only[EVS,EVN,reduceIte,Nat.reduceEqDiff,Nat.reduceLeDiff,x141,hmd,MDS,e1]
theorem sortedCmp_ret {B:Base}(hB:Std B){x y z u x2 y2 z2 u2:PL}{m n:List Nat}(hm:m.length=8)(hn:n.length=8):
  Ret B 134 [.agg (x::y::z::u::mo m),.agg (x2::y2::z2::u2::mo n)] (.one (.int .i64 (XW n m))):=by
 have hc:=TT hB hn hm
 have tm:(moD m).take 8=moD m:=Ze (by rw[Xb];omega)
 have tn:(moD n).take 8=moD n:=Ze (by rw[Xb];omega)
 refine Ret.of (hB.tab _ _ rfl) ((hc.evt.and hB.evt).mono fun E K ⟨e1,hmd⟩=> ?_)
 simp only[EVS,EVN,EVF,reduceIte,Nat.reduceEqDiff,Nat.reduceLeDiff,Nat.reduceAdd,x134,hmd,MDS,e1,XT,Xb,hm,hn,tm,tn,XN,XP]
def natO:PL->Option Nat
 | .int .i64 (.ofNat n)=>bif Nat.ble n 65535 then some n else none
 |_=>none
def monO (c:List PL):Option (List Nat):=match c with
 |_::_::_::_::m=>bif Nat.beq m.length 8 then Xl natO m else none
 |_=>none
def S7 (c:List PL):List Nat:=(monO c).getD []
def isTerm (c:List PL):Bool:=(monO c).isSome
theorem natO_spec {l:PL}{n:Nat}(h:natO l=some n):l=.int .i64 (.ofNat n)/\n<=65535:=by
 unfold natO at h
 split at h
 ·obtain⟨h1,rfl⟩:=Xk h
  exact⟨rfl,Wb h1⟩
 ·cases h
theorem natO_mo:∀{l:List PL} {m:List Nat},Xl natO l=some m->l=mo m/\∀e∈m,e<=65535
 |[],m,h=>by cases h;exact⟨rfl,fun _ h=>by cases h⟩
 |x::l,m,h=>by
  simp only[Xl]at h
  split at h
  ·cases h
  ·rename_i n hn
   split at h
   ·cases h
   ·rename_i ns hns
    cases h
    obtain⟨rfl,h1⟩:=natO_spec hn
    obtain⟨rfl,h2⟩:=natO_mo hns
    refine⟨rfl,fun e he=> ?_⟩
    rcases Zk.1 he with rfl|he
    ·exact h1
    ·exact h2 e he
theorem mapO_mo:∀{m:List Nat},(∀e∈m,e<=65535)->Xl natO (mo m)=some m
 |[],_=>rfl
 |e::m,h=>by
  have ih:=mapO_mo (m:=m) fun x hx=>h x (Zc _ hx)
  unfold mo at ih
  have :Nat.ble e 65535=true:=T5 (h e (Zh ..))
  simp only[mo,Zx,Xl,natO,this,cond_true,ih]
theorem monO_spec {c:List PL}{m:List Nat}(h:monO c=some m):∃x y z u,c=x::y::z::u::mo m/\XF m:=by
 unfold monO at h
 split at h
 ·rename_i x y z u l
  obtain⟨h1,h2⟩:=XA h
  obtain⟨rfl,h3⟩:=natO_mo h2
  refine⟨x,y,z,u,rfl,?_,h3⟩
  have:=Zj h1
  simpa[mo]using this
 ·cases h
theorem monO_term {x y z u:PL}{m:List Nat}(h:XF m):monO (x::y::z::u::mo m)=some m:=by
 have h1:Nat.beq (mo m).length 8=true:=by rw[Xt,h.1];rfl
 simp only[monO,h1,cond_true,mapO_mo h.2]
theorem WZ {c:List PL}(h:isTerm c=true):∃x y z u,c=x::y::z::u::mo (S7 c)/\XF (S7 c):=by
 unfold isTerm at h
 obtain⟨m,hm⟩:=Option.isSome_iff_exists.1 h
 unfold S7
 rw[hm]
 exact monO_spec hm
def cmpS (x y:List PL):Int:=XW (S7 y) (S7 x)
def isNeg:Int->Bool
 | .negSucc _=>true
 |_=>false
theorem isNeg_iff (z:Int):isNeg z=true↔z<0:=by
 cases z with
 |ofNat n=>simp[isNeg]
 |negSucc n=>simp only[isNeg,true_iff];omega
theorem cmpL_flip:∀(m n:List Nat),XW n m=.negSucc 0↔XW m n=.ofNat 1
 |[],[]=>by simp[XW]
 |[],_::_=>by simp[XW]
 |_::_,[]=>by simp[XW]
 |a::m,b::n=>by
  simp only[XW]
  by_cases h1:b<a
  ·have h2:¬a<b:=by omega
   simp[h1,h2]
  ·by_cases h2:a<b
   ·simp[h1,h2]
   ·simp only[h1,h2,if_false];exact cmpL_flip m n
theorem cmpL_trans:∀{l m n:List Nat},l.length=m.length->m.length=n.length->XW l m=.ofNat 1->XW m n=.ofNat 1->XW l n=.ofNat 1
 |[],_,_,_,_,h,_=>by simp[XW]at h
 |_::_,[],_,h,_,_,_=>by simp at h
 |_::_,_::_,[],_,h,_,_=>by simp at h
 |a::l,b::m,c::n,h1,h2,h3,h4=>by
  simp only[XW]at h3 h4⊢
  by_cases q1:a<b
  ·simp[q1]at h3
  ·by_cases q2:b<c
   ·simp[q2]at h4
   ·by_cases q3:b<a
    ·have :c<a:=by omega
     have :¬a<c:=by omega
     simp[*]
    ·by_cases q4:c<b
     ·have :c<a:=by omega
      have :¬a<c:=by omega
      simp[*]
     ·simp only[q1,q3,if_false]at h3
      simp only[q2,q4,if_false]at h4
      have :¬a<c:=by omega
      have :¬c<a:=by omega
      simp only[*,if_false]
      exact cmpL_trans (by simpa using h1) (by simpa using h2) h3 h4
def ins (c:List PL):List (List PL)->List (List PL)
 |[]=>[c]
 |d::ds=>bif isNeg (cmpS d c)then d::ins c ds else c::d::ds
def Terms (cs:List (List PL)):Prop:=∀c∈cs,isTerm c=true
def Distinct (cs:List (List PL)):Prop:=∀x∈cs,∀y∈cs,S7 x=S7 y->x=y
def unP:DL->Option PL
 | .p l=>some l
 |_=>none
theorem unP_map:∀(l:List PL),Xl unP (l.map DL.p)=some l
 |[]=>rfl
 |x::l=>by simp only[Zx,Xl,unP,unP_map l]
theorem unP_pc:∀(es:List (List PL)),Xl (Xl unP) (pc es)=some es
 |[]=>rfl
 |e::es=>by
  have:=unP_pc es
  unfold pc at this
  simp only[pc,Zx,Xl,unP_map,this]
theorem unP_inv:∀{l:List DL} {r:List PL},Xl unP l=some r->l=r.map DL.p
 |[],r,h=>by cases h;rfl
 |x::l,r,h=>by
  simp only[Xl]at h
  split at h
  ·cases h
  ·rename_i y hy
   split at h
   ·cases h
   ·rename_i ys hys
    cases h
    rw[unP_inv hys]
    cases x<;>simp[unP]at hy
    subst hy;rfl
theorem unPc_inv:∀{l:List (List DL)} {r:List (List PL)},Xl (Xl unP) l=some r->l=pc r
 |[],r,h=>by cases h;rfl
 |x::l,r,h=>by
  simp only[Xl]at h
  split at h
  ·cases h
  ·rename_i y hy
   split at h
   ·cases h
   ·rename_i ys hys
    cases h
    rw[unPc_inv hys,unP_inv hy];rfl
def noDup:List (List PL)->Bool
 |[]=>true
 |c::cs=>cs.all (fun d=> !(eqLs Nat.beq (S7 c) (S7 d)))&&noDup cs
theorem eqLs_self:∀(m:List Nat),eqLs Nat.beq m m=true
 |[]=>rfl
 |a::m=>by simp[eqLs,eqLs_self m]
theorem noDup_spec:∀{cs:List (List PL)},noDup cs=true->Distinct cs
 |[],_=>fun _ h=>by cases h
 |c::cs,h=>by
  simp only[noDup,Zo,ZP,YJ]at h
  obtain⟨h1,h2⟩:=h
  have ih:=noDup_spec h2
  have key:∀d∈cs,S7 c≠S7 d:=by
   intro d hd e
   have:=h1 d hd
   rw[e,eqLs_self]at this;cases this
  intro x hx y hy e
  rcases Zk.1 hx with px|px<;>rcases Zk.1 hy with py|py
  ·rw[px,py]
  ·rw[px]at e;exact absurd e (key y py)
  ·rw[py]at e;exact absurd e.symm (key x px)
  ·exact ih x px y py e
theorem Vm:∀(o:List (List Int)) (m n:List Nat),Wd o m n=.ofNat 1\/Wd o m n=.negSucc 0\/Wd o m n=.ofNat 0
 |[],m,n=>WB m n
 |r::o,m,n=>by
  simp only[Wd]
  by_cases h1:wt r m<wt r n
  ·rw[if_pos h1];exact .inr (.inl rfl)
  ·rw[if_neg h1]
   by_cases h2:wt r n<wt r m
   ·rw[if_pos h2];exact .inl rfl
   ·rw[if_neg h2];exact Vm o m n
theorem cmpO_neg_iff {o:List (List Int)}{m n:List Nat}:Wd o m n<0↔Wd o m n=.negSucc 0:=by
 rcases Vm o m n with h|h|h<;>rw[h]<;>decide
theorem SL:∀{o:List (List Int)} {m n:List Nat},Wd o n m=.negSucc 0↔Wd o m n=.ofNat 1
 |[],m,n=>cmpL_flip m n
 |r::o,m,n=>by
  simp only[Wd]
  by_cases h1:wt r m<wt r n
  ·have h2:¬wt r n<wt r m:=by omega
   simp[h1,h2]
  ·by_cases h2:wt r n<wt r m
   ·simp[h1,h2]
   ·simp only[h1,h2,if_false];exact SL
theorem cmpO_trans:∀{o:List (List Int)} {l m n:List Nat},l.length=m.length->m.length=n.length->Wd o l m=.ofNat 1->Wd o m n=.ofNat 1->Wd o l n=.ofNat 1
 |[],_,_,_,h1,h2,h3,h4=>cmpL_trans h1 h2 h3 h4
 |r::o,l,m,n,h1,h2,h3,h4=>by
  simp only[Wd]at h3 h4⊢
  by_cases q1:wt r l<wt r m
  ·simp[q1]at h3
  ·by_cases q2:wt r m<wt r n
   ·simp[q2]at h4
   ·by_cases q3:wt r m<wt r l
    ·have :wt r n<wt r l:=by omega
     have :¬wt r l<wt r n:=by omega
     simp[*]
    ·by_cases q4:wt r n<wt r m
     ·have :wt r n<wt r l:=by omega
      have :¬wt r l<wt r n:=by omega
      simp[*]
     ·simp only[q1,q3,if_false]at h3
      simp only[q2,q4,if_false]at h4
      have :¬wt r l<wt r n:=by omega
      have :¬wt r n<wt r l:=by omega
      simp only[*,if_false]
      exact cmpO_trans h1 h2 h3 h4
theorem cmpO_zero:∀{o:List (List Int)} {m n:List Nat},m.length=n.length->Wd o m n=.ofNat 0->m=n
 |[],_,_,h,h0=>Uh h h0
 |r::o,m,n,h,h0=>by
  simp only[Wd]at h0
  by_cases h1:wt r m<wt r n
  ·simp[h1]at h0
  ·by_cases h2:wt r n<wt r m
   ·simp[h1,h2]at h0
   ·simp only[h1,h2,if_false]at h0;exact cmpO_zero h h0
def VE (o:List (List Int))(x y:List PL):Int:=Wd o (S7 y) (S7 x)
def insO (o:List (List Int))(c:List PL):List (List PL)->List (List PL)
 |[]=>[c]
 |d::ds=>bif isNeg (VE o d c)then d::insO o c ds else c::d::ds
def Ut (o:List (List Int)):List (List PL)->List (List PL)
 |[]=>[]
 |c::cs=>insO o c (Ut o cs)
variable {o:List (List Int)}
theorem insO_perm (c:List PL):∀ds,(insO o c ds).Perm (c::ds)
 |[]=>.refl _
 |d::ds=>by
  unfold insO
  cases isNeg (VE o d c)with
  |true=>exact((insO_perm c ds).cons d).trans (.swap ..)
  |false=>exact .refl _
theorem Tb:∀cs,(Ut o cs).Perm cs
 |[]=>.refl _
 |c::cs=>(insO_perm c _).trans ((Tb cs).cons c)
theorem cmpT_irr {x:List PL}:¬VE o x x<0:=by
 unfold VE;rw[cmpO_self];decide
theorem cmpT_tr {x y z:List PL}(hx:isTerm x=true)(hy:isTerm y=true)(hz:isTerm z=true)(h1:VE o x y<0)(h2:VE o y z<0):VE o x z<0:=by
 obtain⟨_,_,_,_,-,l1,-⟩:=WZ hx
 obtain⟨_,_,_,_,-,l2,-⟩:=WZ hy
 obtain⟨_,_,_,_,-,l3,-⟩:=WZ hz
 unfold VE at *
 rw[cmpO_neg_iff,SL]at *
 exact cmpO_trans (by omega) (by omega) h1 h2
theorem cmpT_tot {x y:List PL}(hx:isTerm x=true)(hy:isTerm y=true)(h1:¬VE o x y<0)(h2:¬VE o y x<0):S7 x=S7 y:=by
 obtain⟨_,_,_,_,-,l1,-⟩:=WZ hx
 obtain⟨_,_,_,_,-,l2,-⟩:=WZ hy
 unfold VE at *
 rw[cmpO_neg_iff]at h1 h2
 rw[SL]at h1
 rcases Vm o (S7 x) (S7 y)with h|h|h
 ·exact absurd h h1
 ·exact absurd h h2
 ·exact cmpO_zero (by omega) h
theorem cmpT_ntr {x y z:List PL}(hx:isTerm x=true)(hy:isTerm y=true)(hz:isTerm z=true)(h1:¬VE o x y<0)(h2:¬VE o y z<0):¬VE o x z<0:=by
 intro h3
 by_cases h4:VE o y x<0
 ·exact h2 (cmpT_tr hy hx hz h4 h3)
 ·have e:=cmpT_tot hx hy h1 h4
  exact h2 (by unfold VE at h3⊢;rw[<-e];exact h3)
theorem insO_sorted {c:List PL}(hc:isTerm c=true):∀{ds:List (List PL)},Terms ds->ds.Pairwise (fun x y=>¬VE o y x<0)->(insO o c ds).Pairwise fun x y=>¬VE o y x<0
 |[],_,_=>by simp[insO]
 |d::ds,ht,h=>by
  have hd:=ht d (Zh ..)
  have ht':Terms ds:=fun x hx=>ht x (Zc _ hx)
  obtain⟨h1,h2⟩:=Zt.1 h
  unfold insO
  cases hn:isNeg (VE o d c)with
  |true=>
   rw[isNeg_iff]at hn
   refine Zt.2 ⟨fun x hx=> ?_,insO_sorted hc ht' h2⟩
   rcases Zk.1 ((insO_perm c ds).mem_iff.1 hx)with rfl|hx
   ·intro hq;exact cmpT_irr (cmpT_tr hd hc hd hn hq)
   ·exact h1 x hx
  |false=>
   have hn':¬VE o d c<0:=fun q=>by rw[<-isNeg_iff]at q;rw[q]at hn;cases hn
   refine Zt.2 ⟨fun x hx=> ?_,h⟩
   rcases Zk.1 hx with rfl|hx
   ·exact hn'
   ·exact cmpT_ntr (ht' x hx) hd hc (h1 x hx) hn'
theorem isortO_terms {cs:List (List PL)}(h:Terms cs):Terms (Ut o cs):=fun c hc=>h c ((Tb cs).mem_iff.1 hc)
theorem Sd:∀{cs:List (List PL)},Terms cs->(Ut o cs).Pairwise fun x y=>¬VE o y x<0
 |[],_=>.nil
 |c::cs,h=>insO_sorted (h c (Zh ..)) (isortO_terms fun x hx=>h x (Zc _ hx)) (Sd fun x hx=>h x (Zc _ hx))
end Go.Proofs.YtefpgecinlekpaaGreat
