/- Numbers as lists of words: plain facts, no program in sight. -/
import Derived.Test.YtefpgecinlekpaaGreatZ
namespace Go.Num
def B:Nat:=4294967296
def val:List Nat->Nat
 |[]=>0
 |w::ws=>w+4294967296*val ws
def Dig (ws:List Nat):Prop:=∀w∈ws,w<4294967296
theorem Dig.cons {w:Nat}{ws:List Nat}(h:Dig (w::ws)):w<4294967296/\Dig ws:=⟨h w (by simp),fun x hx=>h x (by simp[hx])⟩
theorem Dig.mk {w:Nat}{ws:List Nat}(h:w<4294967296)(k:Dig ws):Dig (w::ws):=by
 intro x hx
 rcases Zk.1 hx with rfl|hx
 ·exact h
 ·exact k x hx
theorem Dig.nil:Dig []:=fun _ h=>by cases h
def Wr:List Nat->List Nat
 |[]=>[]
 |w::ws=>match Wr ws with
  |[]=>if w=0 then[]else[w]
  |t=>w::t
theorem val_trim:∀ws,val (Wr ws)=val ws
 |[]=>rfl
 |w::ws=>by
  have ih:=val_trim ws
  unfold Wr
  split
  ·rename_i h
   rw[h]at ih
   simp only[val]at ih
   split
   ·simp only[val];omega
   ·simp only[val];omega
  ·simp only[val,ih]
def Canon:List Nat->Prop
 |[]=>True
 |[w]=>w≠0
 |_::v::ws=>Canon (v::ws)
theorem trim_canon:∀ws,Canon (Wr ws)
 |[]=>trivial
 |w::ws=>by
  have ih:=trim_canon ws
  unfold Wr
  split
  ·split
   ·trivial
   ·assumption
  ·rename_i t h
   cases ht:Wr ws with
   |nil=>exact absurd ht h
   |cons a l=>rw[ht]at ih;exact ih
theorem trim_dig:∀{ws},Dig ws->Dig (Wr ws)
 |[],_=>Dig.nil
 |w::ws,h=>by
  have ih:=trim_dig h.cons.2
  unfold Wr
  split
  ·split
   ·exact Dig.nil
   ·exact Dig.mk h.cons.1 Dig.nil
  ·exact Dig.mk h.cons.1 ih
theorem canon_pos:∀{w ws},Canon (w::ws)->0<val (w::ws)
 |w,[],h=>by simp only[Canon]at h;simp only[val];omega
 |w,v::ws,h=>by
  have:=canon_pos (w:=v) (ws:=ws) h
  simp only[val]at this⊢;omega
theorem canon_tail {w:Nat}{ws:List Nat}(h:Canon (w::ws)):Canon ws:=by
 cases ws with
 |nil=>trivial
 |cons v ws=>exact h
theorem canon_inj:∀{a b:List Nat},Dig a->Dig b->Canon a->Canon b->val a=val b->a=b
 |[],[],_,_,_,_,_=>rfl
 |[],w::ws,_,_,_,hb,h=>by have:=canon_pos hb;simp only[val]at h this;omega
 |w::ws,[],_,_,ha,_,h=>by have:=canon_pos ha;simp only[val]at h this;omega
 |x::xs,y::ys,da,db,ha,hb,h=>by
  simp only[val]at h
  have h1:=da.cons.1
  have h2:=db.cons.1
  have e1:x=y:=by omega
  have e2:val xs=val ys:=by omega
  rw[e1,canon_inj da.cons.2 db.cons.2 (canon_tail ha) (canon_tail hb) e2]
def Xc (n:Nat):List Nat:=if h:n=0 then[]else n%4294967296::Xc (n / 4294967296)
termination_by n
decreasing_by omega
theorem Wm:Xc 0=[]:=by unfold Xc;simp
theorem VV {n:Nat}(h:n≠0):Xc n=n%4294967296::Xc (n / 4294967296):=by
 rw[Xc];simp[h]
theorem Xg (n:Nat):val (Xc n)=n:=by
 induction n using Nat.strongRecOn with
 |ind n ih=>
  by_cases h:n=0
  ·subst h;rw[Wm];rfl
  ·rw[VV h];simp only[val];rw[ih _ (by omega)];omega
theorem Xj (n:Nat):Dig (Xc n):=by
 induction n using Nat.strongRecOn with
 |ind n ih=>
  by_cases h:n=0
  ·subst h;rw[Wm];exact Dig.nil
  ·rw[VV h];exact Dig.mk (by omega) (ih _ (by omega))
theorem Wh (n:Nat):Canon (Xc n):=by
 induction n using Nat.strongRecOn with
 |ind n ih=>
  by_cases h:n=0
  ·subst h;rw[Wm];trivial
  ·rw[VV h]
   have:=ih (n / 4294967296) (by omega)
   by_cases h2:n / 4294967296=0
   ·rw[h2,Wm];simp only[Canon];omega
   ·rw[VV h2]at this⊢;exact this
theorem eq_words {ws:List Nat}(hd:Dig ws)(hc:Canon ws){n:Nat}(hv:val ws=n):ws=Xc n:=
 canon_inj hd (Xj n) hc (Wh n) (by rw[hv,Xg])
theorem VG {ws:List Nat}(hd:Dig ws){n:Nat}(hv:val ws=n):Wr ws=Xc n:=
 eq_words (trim_dig hd) (trim_canon ws) (by rw[val_trim,hv])
theorem SP:∀(a b:List Nat),val (a++b)=val a+4294967296^a.length*val b
 |[],b=>by simp[val]
 |w::a,b=>by
  simp only[ZR,val,SP a b,Zi,ZD]
  grind
theorem Wf:∀{ws:List Nat},Dig ws->val ws<4294967296^ws.length
 |[],_=>by simp[val]
 |w::ws,h=>by
  have:=Wf h.cons.2
  have:=h.cons.1
  simp only[val,Zi,ZD]
  omega
theorem W5 (n:Nat):val (List.replicate n 0)=0:=by
 induction n with
 |zero=>rfl
 |succ n ih=>simp only[List.replicate_succ,val,ih]
theorem V4:∀{ws:List Nat} {p w x:Nat},ws[p]? =some x->val (ws.set p w)+x*4294967296^p=val ws+w*4294967296^p
 |[],_,_,_,h=>by simp at h
 |v::ws,0,w,x,h=>by simp at h;subst h;simp only[List.set_cons_zero,val];omega
 |v::ws,p+1,w,x,h=>by
  have:=V4 (ws:=ws) (p:=p) (w:=w) (x:=x) (by simpa using h)
  simp only[List.set_cons_succ,val,ZD]
  grind
theorem Dig.set {ws:List Nat}(h:Dig ws)(p:Nat){w:Nat}(hw:w<4294967296):Dig (ws.set p w):=by
 intro x hx
 rcases List.mem_or_eq_of_mem_set hx with h1|h1
 ·exact h x h1
 ·subst h1;exact hw
theorem Dig.get {ws:List Nat}(h:Dig ws){p w:Nat}(hp:ws[p]? =some w):w<4294967296:=h w (Zu hp)
theorem Dig.replicate (n:Nat):Dig (List.replicate n 0):=by
 intro x hx;rw[List.eq_of_mem_replicate hx];decide
theorem val_drop {ws:List Nat}{p w:Nat}(h:ws[p]? =some w):val (ws.drop p)=w+4294967296*val (ws.drop (p+1)):=by
 obtain⟨h1,rfl⟩:=Zb.1 h
 rw[Z1 h1];rfl
theorem WC {ws:List Nat}{p w:Nat}(h:ws[p]? =some w):val (ws.take (p+1))=val (ws.take p)+w*4294967296^p:=by
 obtain⟨h1,rfl⟩:=Zb.1 h
 rw[List.take_add_one,SP,Zf h1]
 simp only[Option.toList_some,val,ZK,Nat.mul_zero,Yu]
 rw[Yg (by omega),ZE]
theorem trim_snoc:∀(a:List Nat) (w:Nat),Wr (a++[w])=if w=0 then Wr a else a++[w]
 |[],w=>by simp[Wr]
 |x::a,w=>by
  have ih:=trim_snoc a w
  by_cases h:w=0
  ·rw[if_pos h]at ih⊢
   simp only[ZR,Wr,ih]
  ·rw[if_neg h]at ih⊢
   simp only[ZR,Wr,ih]
   cases hh:a++[w]with
   |nil=>simp at hh
   |cons b l=>rfl
theorem take_snoc {ws:List Nat}{n w:Nat}(h:ws[n]? =some w):ws.take (n+1)=ws.take n++[w]:=by
 rw[List.take_add_one,h];rfl
theorem trim_prefix:∀(ws:List Nat),∃m,m<=ws.length/\Wr ws=ws.take m
 |[]=>⟨0,by simp,rfl⟩
 |w::ws=>by
  obtain⟨m,h1,h2⟩:=trim_prefix ws
  unfold Wr
  split
  ·split
   ·exact⟨0,by simp,by simp⟩
   ·exact⟨1,by simp,by simp⟩
  ·rw[h2];exact⟨m+1,by simp;omega,by simp⟩
theorem trim_len (ws:List Nat):(Wr ws).length<=ws.length:=by
 obtain⟨m,h1,h2⟩:=trim_prefix ws
 rw[h2,ZK];omega
theorem trim_eq (ws:List Nat):Wr ws=ws.take (Wr ws).length:=by
 obtain⟨m,h1,h2⟩:=trim_prefix ws
 rw[h2,ZK,Yg h1]
def dg:Nat->Nat->List Nat
 |0,_=>[]
 |n+1,v=>v%4294967296::dg n (v / 4294967296)
theorem XH:∀(n v:Nat),(dg n v).length=n
 |0,_=>rfl
 |n+1,v=>by simp[dg,XH n]
theorem dg_dig:∀(n v:Nat),Dig (dg n v)
 |0,_=>Dig.nil
 |n+1,v=>Dig.mk (by omega) (dg_dig n _)
theorem val_dg:∀{n v:Nat},v<4294967296^n->val (dg n v)=v
 |0,v,h=>by simp only[Nat.pow_zero]at h;simp only[dg,val];omega
 |n+1,v,h=>by
  simp only[dg,val]
  rw[ZD]at h
  rw[val_dg (Yb (by rw[ZE];exact h))]
  omega
theorem eq_dg:∀{r:List Nat},Dig r->r=dg r.length (val r)
 |[],_=>rfl
 |w::r,h=>by
  have:=h.cons.1
  simp only[Zi,dg,val]
  rw[show(w+4294967296*val r)%4294967296=w by omega,show(w+4294967296*val r) / 4294967296=val r by omega,<-eq_dg h.cons.2]
theorem Ul {n v:Nat}(h:v<4294967296^n):Wr (dg n v)=Xc v:=VG (dg_dig n v) (val_dg h)
theorem V8 {r:List Nat}{n v:Nat}(hd:Dig r)(hn:r.length=n)(hv:val r=v):r=dg n v:=by
 subst hn;subst hv;exact eq_dg hd
theorem WA {m n:Nat}(h:m<=n):4294967296^m<=4294967296^n:=Nat.pow_le_pow_right (by decide) h
theorem SM:∀{ws:List Nat},Canon ws->0<ws.length->4294967296^(ws.length-1)<=val ws
 |[],_,h=>by simp at h
 |[w],h,_=>by simp only[Canon]at h;simp only[val,Zi,Zw,ZY,YN,Nat.pow_zero];omega
 |w::v::ws,h,_=>by
  have:=SM (ws:=v::ws) h (by simp)
  simp only[Zi,Z6]at this⊢
  rw[ZD]
  simp only[val]at this⊢
  omega
theorem WD {n k:Nat}(h:n<4294967296^k):(Xc n).length<=k:=by
 rcases Yn k (Xc n).length with hk|hk
 ·have h1:=SM (Wh n) (by omega)
  rw[Xg]at h1
  have:=ZC (WA (show k<=(Xc n).length-1 by omega)) h1
  omega
 ·exact hk
theorem V2 (n:Nat):n<4294967296^(Xc n).length:=by
 have:=Wf (Xj n)
 rwa[Xg]at this
theorem Xs {m n:Nat}(h:m<=n):(Xc m).length<=(Xc n).length:=WD (Z5 h (V2 n))
theorem Vt (m n:Nat):(Xc (m*n)).length<=(Xc m).length+(Xc n).length:=
 WD (by rw[Nat.pow_add];exact Nat.mul_lt_mul'' (V2 m) (V2 n))
theorem Vu (m n:Nat):(Xc (m+n)).length<=(Xc m).length+(Xc n).length+1:=by
 have h1:=ZQ (V2 m) (WA (Nat.le_add_right _ (Xc n).length))
 have h2:=ZQ (V2 n) (WA (Nat.le_add_left _ (Xc m).length))
 exact WD (by rw[ZD];omega)
theorem val_takeD (ws:List Nat)(i:Nat):val (ws.take (i+1))=val (ws.take i)+ws[i]?.getD 0*4294967296^i:=by
 cases h:ws[i]? with
 |none=>
  have :ws.length<=i:=List.getElem?_eq_none_iff.1 h
  rw[Ze (by omega),Ze this];simp
 |some w=>rw[WC h];rfl
def XW:List Nat->List Nat->Int
 |a::as,b::bs=>if a<b then .negSucc 0 else if b<a then .ofNat 1 else XW as bs
 |_,_=>.ofNat 0
def Xh (m n:List Nat):List Nat:=List.zipWith (·+ ·) m n
theorem UR:∀m,XW m m=.ofNat 0
 |[]=>rfl
 |a::m=>by simp only[XW,ZA,if_false];exact UR m
theorem Uh:∀{m n:List Nat},m.length=n.length->XW m n=.ofNat 0->m=n
 |[],[],_,_=>rfl
 |[],_::_,h,_=>by simp at h
 |_::_,[],h,_=>by simp at h
 |a::m,b::n,h,hc=>by
  simp only[XW]at hc
  split at hc
  ·cases hc
  ·split at hc
   ·simp at hc
   ·rw[Uh (by simpa using h) hc,show a=b by omega]
theorem WB:∀(m n:List Nat),XW m n=.ofNat 1\/XW m n=.negSucc 0\/XW m n=.ofNat 0
 |[],[]=>.inr (.inr rfl)
 |[],_::_=>.inr (.inr rfl)
 |_::_,[]=>.inr (.inr rfl)
 |a::m,b::n=>by
  simp only[XW]
  split
  ·exact .inr (.inl rfl)
  ·split
   ·exact .inl rfl
   ·exact WB m n
theorem guess_spec {U V T W p q D:Nat}(hp:0<p)(hW1:W*p<=V)(hW2:V<(W+1)*p)(hT1:T*p<=U)(hT2:U<(T+1)*p)(hD:D*p<=V)(hq:q<=D)(hU:U<V*(D+1))
  (h1:q*W<=T) (h2:D<=q\/T<(q+1)*W):U / V<=q/\q<=U / V+1:=by
 have hV:0<V:=by
  rcases Z0 V with h|h
  ·subst h;omega
  ·exact h
 constructor
 ·rcases h2 with h2|h2
  ·have :U / V<D+1:=Yb hU
   omega
  ·have h3:U<(q+1)*V:=by
    have a1:(T+1)*p<=((q+1)*W)*p:=Zn p h2
    have a2:((q+1)*W)*p=(q+1)*(W*p):=Yj ..
    have a3:(q+1)*(W*p)<=(q+1)*V:=Yq _ hW1
    omega
   have :U / V<q+1:=Yb (by rw[ZE];exact h3)
   omega
 ·rcases Yn (U / V+1) q with h|h
  ·exfalso
   have b1:U<(U / V+1)*V:=by
    have:=Nat.lt_mul_div_succ U hV
    rw[ZE];exact this
   have b2:(U / V+1)*V<=(q-1)*V:=Zn V (Nat.le_sub_one_of_lt h)
   have b3:q*W*p<=T*p:=Zn p h1
   have b4:q*V<=q*((W+1)*p):=Yq q (Nat.le_of_lt hW2)
   have b5:q*((W+1)*p)=q*W*p+q*p:=by rw[ZJ,Z9,Nat.mul_add,Yj]
   have b6:q*p<=D*p:=Zn p hq
   have b7:(q-1)*V+V=q*V:=by
    obtain⟨k,rfl⟩:∃k,q=k+1:=⟨q-1,(Nat.sub_add_cancel (ZC (Nat.succ_le_succ (Zr _)) h)).symm⟩
    rw[Z6,ZJ,Z9]
   generalize q*W*p=x at *
   generalize q*p=y at *
   generalize q*V=z at *
   generalize q*((W+1)*p)=x1 at *
   generalize (U / V+1)*V=x2 at *
   generalize (q-1)*V=x3 at *
   generalize T*p=x4 at *
   generalize D*p=x5 at *
   omega
  ·exact h
theorem Ug:∀(m n v:Nat),dg (m+n) v=dg m v++dg n (v / 4294967296^m)
 |0,n,v=>by simp[dg]
 |m+1,n,v=>by
  rw[show m+1+n=(m+n)+1 by omega]
  simp only[dg,ZR,Ug m n,YO,ZD]
  rw[ZE (4294967296^m)]
theorem dg_zero:∀n,dg n 0=List.replicate n 0
 |0=>rfl
 |n+1=>by simp[dg,dg_zero n,List.replicate_succ]
theorem dg_mod:∀(n v:Nat),dg n (v%4294967296^n)=dg n v
 |0,_=>rfl
 |n+1,v=>by
  simp only[dg]
  have h1:v%4294967296^(n+1)%4294967296=v%4294967296:=by
   rw[ZD,Nat.mod_mul_left_mod]
  have h2:v%4294967296^(n+1) / 4294967296=(v / 4294967296)%4294967296^n:=by
   rw[ZD,ZE,Nat.mod_mul_right_div_self]
  rw[h1,h2,dg_mod n]
theorem take_dg {m n v:Nat}(h:m<=n):(dg n v).take m=dg m v:=by
 obtain⟨k,rfl⟩:=Nat.exists_eq_add_of_le h
 rw[Ug,List.take_left' (XH m v)]
theorem drop_dg {m n v:Nat}(h:m<=n):(dg n v).drop m=dg (n-m) (v / 4294967296^m):=by
 obtain⟨k,rfl⟩:=Nat.exists_eq_add_of_le h
 rw[Ug,List.drop_left' (XH m v),Yx]
theorem get_dg {n v i:Nat}(h:i<n):(dg n v)[i]? =some (v / 4294967296^i%4294967296):=by
 have h1:=drop_dg (m:=i) (n:=n) (v:=v) (by omega)
 obtain⟨k,hk⟩:∃k,n-i=k+1:=⟨n-i-1,by omega⟩
 rw[hk,dg]at h1
 have:=congrArg (·[0]?) h1
 simpa using this
def Norm (V n:Nat):Prop:=4294967296^n<=2*V/\V<4294967296^n
abbrev Qm:=Rat×List Nat
def V3:List Qm->List Qm->List Qm
 |[],us=>us
 |ts,[]=>ts
 |t::ts,u::us=>
  if XW t.2 u.2=.ofNat 1 then t::V3 ts (u::us)
  else if XW t.2 u.2=.negSucc 0 then u::V3 (t::ts) us
  else if t.1+u.1=0 then V3 ts us else(t.1+u.1,t.2)::V3 ts us
termination_by ts us=>ts.length+us.length
theorem We (us:List Qm):V3 [] us=us:=by unfold V3;rfl
theorem WJ (ts:List Qm):V3 ts []=ts:=by cases ts<;>(unfold V3;rfl)
theorem US (t u:Qm)(ts us:List Qm):V3 (t::ts) (u::us)=if XW t.2 u.2=.ofNat 1 then t::V3 ts (u::us)
  else if XW t.2 u.2=.negSucc 0 then u::V3 (t::ts) us
  else if t.1+u.1=0 then V3 ts us else(t.1+u.1,t.2)::V3 ts us:=by
 rw[V3]
def prQ:List Qm->(List Nat->Rat)->Rat
 |[],_=>0
 |t::ts,φ=>t.1*φ t.2+prQ ts φ
def Q8 (ts:List Qm):Prop:=∀t∈ts,t.2.length=8
theorem Q8.tail {t:Qm}{ts:List Qm}(h:Q8 (t::ts)):Q8 ts:=fun x hx=>h x (Zc _ hx)
theorem Q8.head {t:Qm}{ts:List Qm}(h:Q8 (t::ts)):t.2.length=8:=h t (Zh ..)
theorem prQ_add (φ:List Nat->Rat):∀(n:Nat) (ts us:List Qm),ts.length+us.length<=n->Q8 ts->Q8 us->prQ (V3 ts us) φ=prQ ts φ+prQ us φ
 |_,[],us,_,_,_=>by rw[We];simp only[prQ];grind
 |_,t::ts,[],_,_,_=>by rw[WJ];simp only[prQ];grind
 |0,t::ts,u::us,h,_,_=>by simp at h
 |n+1,t::ts,u::us,h,h1,h2=>by
  simp only[Zi]at h
  rw[US]
  split
  ·simp only[prQ,prQ_add φ n ts (u::us) (by simp;omega) h1.tail h2];grind
  ·split
   ·simp only[prQ,prQ_add φ n (t::ts) us (by simp;omega) h1 h2.tail];grind
   ·rename_i a b
    have e:XW t.2 u.2=.ofNat 0:=by
     rcases WB t.2 u.2 with q|q|q
     ·exact absurd q a
     ·exact absurd q b
     ·exact q
    have e2:=Uh (by rw[h1.head,h2.head]) e
    have ih:=prQ_add φ n ts us (by omega) h1.tail h2.tail
    split
    ·rename_i z
     simp only[prQ,ih]
     rw[<-e2]
     have :t.1*φ t.2+u.1*φ t.2=0:=by rw[<-Rat.add_mul,z,Rat.zero_mul]
     grind
    ·simp only[prQ,ih]
     rw[<-e2,Rat.add_mul];grind
def Wo (z:Rat)(m:List Nat)(ts:List Qm):List Qm:=ts.map fun t=>(z*t.1,Xh m t.2)
def Wp (z:Rat)(ts:List Qm):List Qm:=ts.map fun t=>(z*t.1,t.2)
def negQ (ts:List Qm):List Qm:=Wp (-1) ts
theorem prQ_times (z:Rat)(m:List Nat)(φ:List Nat->Rat):∀ts,prQ (Wo z m ts) φ=z*prQ ts fun k=>φ (Xh m k)
 |[]=>by simp[Wo,prQ]
 |t::ts=>by
  have ih:=prQ_times z m φ ts
  unfold Wo at ih
  simp only[Wo,Zx,prQ,ih]
  grind
theorem prQ_scale (z:Rat)(φ:List Nat->Rat):∀ts,prQ (Wp z ts) φ=z*prQ ts φ
 |[]=>by simp[Wp,prQ]
 |t::ts=>by
  have ih:=prQ_scale z φ ts
  unfold Wp at ih
  simp only[Wp,Zx,prQ,ih]
  grind
theorem prQ_neg (φ:List Nat->Rat)(ts:List Qm):prQ (negQ ts) φ= -prQ ts φ:=by
 unfold negQ;rw[prQ_scale];grind
theorem Ub {φ ψ:List Nat->Rat}:∀{ts:List Qm},(∀t∈ts,φ t.2=ψ t.2)->prQ ts φ=prQ ts ψ
 |[],_=>rfl
 |t::ts,h=>by
  simp only[prQ]
  rw[h t (by simp),Ub fun x hx=>h x (Zc _ hx)]
theorem prQ_sum (φ ψ:List Nat->Rat):∀ts,(prQ ts fun m=>φ m+ψ m)=prQ ts φ+prQ ts ψ
 |[]=>by simp only[prQ];grind
 |t::ts=>by simp only[prQ,prQ_sum φ ψ ts];grind
theorem prQ_mulc (z:Rat)(φ:List Nat->Rat):∀ts,(prQ ts fun m=>z*φ m)=z*prQ ts φ
 |[]=>by simp[prQ]
 |t::ts=>by simp only[prQ,prQ_mulc z φ ts];grind
theorem prQ_zero:∀ts,(prQ ts fun _=>0)=0
 |[]=>rfl
 |t::ts=>by simp only[prQ,prQ_zero ts];grind
theorem prQ_swap (ψ:List Nat->List Nat->Rat):∀(ts us:List Qm),(prQ ts fun m=>prQ us fun k=>ψ m k)=prQ us fun k=>prQ ts fun m=>ψ m k
 |[],us=>by simp only[prQ,prQ_zero]
 |t::ts,us=>by
  simp only[prQ,prQ_swap ψ ts us]
  rw[<-prQ_mulc,<-prQ_sum]
structure DcQ (ts:List Qm):Prop where
 nz:∀t∈ts,t.1≠0
 pw:ts.Pairwise fun t u=>XW t.2 u.2=.ofNat 1
theorem DcQ.tail {t:Qm}{ts:List Qm}(h:DcQ (t::ts)):DcQ ts:=⟨fun x hx=>h.nz x (Zc _ hx),(Zt.1 h.pw).2⟩
theorem DcQ.nil:DcQ []:=⟨(fun _ h=>by cases h),.nil⟩
theorem DcQ.cons {t:Qm}{ts:List Qm}(h0:t.1≠0)(h:DcQ ts)(h1:∀u∈ts,XW t.2 u.2=.ofNat 1):DcQ (t::ts):=
 ⟨fun x hx=>by rcases Zk.1 hx with rfl|hx;exact h0;exact h.nz x hx,Zt.2 ⟨h1,h.pw⟩⟩
def coef (ts:List Qm)(m:List Nat):Rat:=prQ ts fun k=>if k=m then 1 else 0
theorem coef_cons (t:Qm)(ts:List Qm)(m:List Nat):coef (t::ts) m=(if t.2=m then t.1 else 0)+coef ts m:=by
 unfold coef;simp only[prQ];split<;>grind
theorem coef_not {ts:List Qm}{m:List Nat}(h:∀t∈ts,t.2≠m):coef ts m=0:=by
 unfold coef
 rw[Ub (ψ:=fun _=>0) fun t ht=>if_neg (h t ht),prQ_zero]
theorem cmpL_ne {m n:List Nat}(h:XW m n=.ofNat 1):m≠n:=by
 intro e;subst e;rw[UR]at h;simp at h
theorem DcQ.coef_mem:∀{ts:List Qm},DcQ ts->∀t∈ts,coef ts t.2=t.1
 |u::ts,h,t,ht=>by
  rw[coef_cons]
  rcases Zk.1 ht with rfl|ht
  ·rw[if_pos rfl,coef_not fun x hx e=>cmpL_ne ((Zt.1 h.pw).1 x hx) e.symm];grind
  ·rw[if_neg (cmpL_ne ((Zt.1 h.pw).1 t ht)),h.tail.coef_mem t ht];grind
theorem Rat_mul_ne_zero {a b:Rat}(ha:a≠0)(hb:b≠0):a*b≠0:=fun h=>(Rat.mul_eq_zero.1 h).elim ha hb
theorem UQ:∀(m n:List Nat),XW n m=.negSucc 0↔XW m n=.ofNat 1
 |[],[]=>by simp[XW]
 |[],_::_=>by simp[XW]
 |_::_,[]=>by simp[XW]
 |a::m,b::n=>by
  simp only[XW]
  by_cases h1:b<a
  ·have h2:¬a<b:=by omega
   simp[h1,h2]
  ·by_cases h2:a<b
   ·simp[h1,h2]
   ·simp only[h1,h2,if_false];exact UQ m n
theorem UP:∀{l m n:List Nat},l.length=m.length->m.length=n.length->XW l m=.ofNat 1->XW m n=.ofNat 1->XW l n=.ofNat 1
 |[],_,_,_,_,h,_=>by simp[XW]at h
 |_::_,[],_,h,_,_,_=>by simp at h
 |_::_,_::_,[],_,h,_,_=>by simp at h
 |a::l,b::m,c::n,h1,h2,h3,h4=>by
  simp only[XW]at h3 h4⊢
  by_cases q1:a<b
  ·simp[q1]at h3
  ·by_cases q2:b<c
   ·simp[q2]at h4
   ·by_cases q3:b<a
    ·have :c<a:=by omega
     have :¬a<c:=by omega
     simp[*]
    ·by_cases q4:c<b
     ·have :c<a:=by omega
      have :¬a<c:=by omega
      simp[*]
     ·simp only[q1,q3,if_false]at h3
      simp only[q2,q4,if_false]at h4
      have :¬a<c:=by omega
      have :¬c<a:=by omega
      simp only[*,if_false]
      exact UP (by simpa using h1) (by simpa using h2) h3 h4
theorem U9:∀(n:Nat) {ts us:List Qm} {x:Qm},ts.length+us.length<=n->Q8 ts->Q8 us->x∈V3 ts us->(∃t∈ts,t.2=x.2)\/∃u∈us,u.2=x.2
 |_,[],us,x,_,_,_,h=>by rw[We]at h;exact .inr ⟨x,h,rfl⟩
 |_,t::ts,[],x,_,_,_,h=>by rw[WJ]at h;exact .inl ⟨x,h,rfl⟩
 |0,_::_,_::_,_,h,_,_,_=>by simp at h
 |n+1,t::ts,u::us,x,hn,h1,h2,h=>by
  have k1:Q8 ts:=fun x hx=>h1 x (Zc _ hx)
  have k2:Q8 us:=fun x hx=>h2 x (Zc _ hx)
  simp only[Zi]at hn
  rw[US]at h
  split at h
  ·rcases Zk.1 h with rfl|h
   ·exact .inl ⟨_,Zh ..,rfl⟩
   ·rcases U9 n (by simp;omega) k1 h2 h with⟨y,hy,e⟩|⟨y,hy,e⟩
    ·exact .inl ⟨y,Zc _ hy,e⟩
    ·exact .inr ⟨y,hy,e⟩
  ·split at h
   ·rcases Zk.1 h with rfl|h
    ·exact .inr ⟨_,Zh ..,rfl⟩
    ·rcases U9 n (by simp;omega) h1 k2 h with⟨y,hy,e⟩|⟨y,hy,e⟩
     ·exact .inl ⟨y,hy,e⟩
     ·exact .inr ⟨y,Zc _ hy,e⟩
   ·have key:x∈V3 ts us->(∃y∈t::ts,y.2=x.2)\/∃y∈u::us,y.2=x.2:=by
     intro h
     rcases U9 n (by omega) k1 k2 h with⟨y,hy,e⟩|⟨y,hy,e⟩
     ·exact .inl ⟨y,Zc _ hy,e⟩
     ·exact .inr ⟨y,Zc _ hy,e⟩
    split at h
    ·exact key h
    ·rcases Zk.1 h with rfl|h
     ·exact .inl ⟨t,Zh ..,rfl⟩
     ·exact key h
theorem q8_addQ {ts us:List Qm}(h1:Q8 ts)(h2:Q8 us):Q8 (V3 ts us):=by
 intro x hx
 rcases U9 _ (Zg _) h1 h2 hx with⟨y,hy,e⟩|⟨y,hy,e⟩
 ·rw[<-e];exact h1 y hy
 ·rw[<-e];exact h2 y hy
theorem dc_addQ:∀(n:Nat) {ts us:List Qm},ts.length+us.length<=n->Q8 ts->Q8 us->DcQ ts->DcQ us->DcQ (V3 ts us)
 |_,[],us,_,_,_,_,h=>by rw[We];exact h
 |_,t::ts,[],_,_,_,h,_=>by rw[WJ];exact h
 |0,_::_,_::_,h,_,_,_,_=>by simp at h
 |n+1,t::ts,u::us,hn,h1,h2,d1,d2=>by
  have k1:Q8 ts:=fun x hx=>h1 x (Zc _ hx)
  have k2:Q8 us:=fun x hx=>h2 x (Zc _ hx)
  have l1:=h1 t (Zh ..)
  have l2:=h2 u (Zh ..)
  have p1:=(Zt.1 d1.pw).1
  have p2:=(Zt.1 d2.pw).1
  simp only[Zi]at hn
  rw[US]
  split
  ·rename_i e
   refine DcQ.cons (d1.nz t (Zh ..)) (dc_addQ n (by simp;omega) k1 h2 d1.tail d2) fun x hx=> ?_
   rcases U9 _ (Zg _) k1 h2 hx with⟨y,hy,e'⟩|⟨y,hy,e'⟩
   ·rw[<-e'];exact p1 y hy
   ·rw[<-e']
    rcases Zk.1 hy with rfl|hy
    ·exact e
    ·exact UP (by omega) (by rw[l2,k2 y hy]) e (p2 y hy)
  ·split
   ·rename_i e
    have e:=(UQ u.2 t.2).1 e
    refine DcQ.cons (d2.nz u (Zh ..)) (dc_addQ n (by simp;omega) h1 k2 d1 d2.tail) fun x hx=> ?_
    rcases U9 _ (Zg _) h1 k2 hx with⟨y,hy,e'⟩|⟨y,hy,e'⟩
    ·rw[<-e']
     rcases Zk.1 hy with rfl|hy
     ·exact e
     ·exact UP (by omega) (by rw[l1,k1 y hy]) e (p1 y hy)
    ·rw[<-e'];exact p2 y hy
   ·rename_i a b
    have e:XW t.2 u.2=.ofNat 0:=by
     rcases WB t.2 u.2 with q|q|q
     ·exact absurd q a
     ·exact absurd q b
     ·exact q
    have e2:=Uh (by omega) e
    have ih:=dc_addQ n (by omega) k1 k2 d1.tail d2.tail
    split
    ·exact ih
    ·rename_i z
     refine DcQ.cons z ih fun x hx=> ?_
     rcases U9 _ (Zg _) k1 k2 hx with⟨y,hy,e'⟩|⟨y,hy,e'⟩
     ·rw[<-e'];exact p1 y hy
     ·rw[<-e'];simp only[];rw[e2];exact p2 y hy
theorem addM_lenQ {m n:List Nat}(hm:m.length=8)(hn:n.length=8):(Xh m n).length=8:=by simp[Xh,hm,hn]
theorem cmpL_addMQ:∀(m a b:List Nat),m.length=a.length->a.length=b.length->XW (Xh m a) (Xh m b)=XW a b
 |[],[],[],_,_=>rfl
 |[],_::_,_,h,_=>by simp at h
 |_::_,[],_,h,_=>by simp at h
 |_,[],_::_,_,h=>by simp at h
 |_,_::_,[],_,h=>by simp at h
 |x::m,y::a,z::b,h1,h2=>by
  have ih:=cmpL_addMQ m a b (by simpa using h1) (by simpa using h2)
  unfold Xh at ih⊢
  simp only[ZG,XW]
  by_cases q1:y<z
  ·rw[if_pos q1,if_pos (by omega)]
  ·rw[if_neg q1,if_neg (by omega)]
   by_cases q2:z<y
   ·rw[if_pos q2,if_pos (by omega)]
   ·rw[if_neg q2,if_neg (by omega)];exact ih
theorem q8_timesQ {z:Rat}{m:List Nat}(hm:m.length=8){ts:List Qm}(h:Q8 ts):Q8 (Wo z m ts):=by
 intro x hx
 simp only[Wo,ZM]at hx
 obtain⟨t,ht,rfl⟩:=hx
 exact addM_lenQ hm (h t ht)
theorem dc_timesQ {z:Rat}(hz:z≠0){m:List Nat}(hm:m.length=8):∀{ts:List Qm},Q8 ts->DcQ ts->DcQ (Wo z m ts)
 |[],_,_=>DcQ.nil
 |t::ts,hw,h=>by
  have k1:Q8 ts:=fun x hx=>hw x (Zc _ hx)
  have ih:=dc_timesQ hz hm k1 h.tail
  refine DcQ.cons (t:=(z*t.1,Xh m t.2)) (Rat_mul_ne_zero hz (h.nz t (Zh ..))) ih fun x hx=> ?_
  simp only[ZM]at hx
  obtain⟨u,hu,rfl⟩:=hx
  have l1:=hw t (Zh ..)
  have l2:=k1 u hu
  simp only[]
  rw[cmpL_addMQ m t.2 u.2 (by omega) (by omega)]
  exact(Zt.1 h.pw).1 u hu
theorem addQ_len:∀(n:Nat) (ts us:List Qm),ts.length+us.length<=n->(V3 ts us).length<=ts.length+us.length
 |_,[],us,_=>by rw[We];simp
 |_,t::ts,[],_=>by rw[WJ];simp
 |0,t::ts,u::us,h=>by simp at h
 |n+1,t::ts,u::us,h=>by
  simp only[Zi]at h
  have h1:=addQ_len n ts (u::us) (by simp;omega)
  have h2:=addQ_len n (t::ts) us (by simp;omega)
  have h3:=addQ_len n ts us (by omega)
  simp only[Zi]at h1 h2
  rw[US]
  split
  ·simp only[Zi];omega
  ·split
   ·simp only[Zi];omega
   ·split
    ·simp only[Zi];omega
    ·simp only[Zi];omega
end Go.Num
