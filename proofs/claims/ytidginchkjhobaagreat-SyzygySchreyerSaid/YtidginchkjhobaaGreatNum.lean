/- Numbers as lists of words: plain facts, no program in sight. -/
import Derived.Test.YtidginchkjhobaaGreatZ
namespace Go.Num
def B:Nat:=4294967296
def val:P'->Nat
 |[]=>0
 |w::ws=>w+4294967296*val ws
def WG (ws:P'):Prop:=∀w∈ws,w<4294967296
theorem WG.cons {w:Nat}{a:P'}(h:WG (w::a)):w<4294967296/\WG a:=⟨h w (by simp),fun x b=>h x (by simp[b])⟩
theorem WG.mk {w:Nat}{b:P'}(h:w<4294967296)(k:WG b):WG (w::b):=by
 intro x a;rcases Zj.1 a with rfl|a
 ·exact h
 ·exact k x a
theorem WG.nil:WG []:=fun _ h=>by cases h
def Vu:P'->P'
 |[]=>[]
 |w::ws=>match Vu ws with
  |[]=>if w=0 then[]else[w]
  |t=>w::t
theorem qd:∀a,val (Vu a)=val a
 |[]=>rfl
 |w::a=>by
  have b:=qd a
  grind [Vu,val]
def Canon:P'->Prop
 |[]=>True
 |[w]=>w≠0
 |_::v::ws=>Canon (v::ws)
theorem gC:∀b,Canon (Vu b)
 |[]=>trivial
 |w::b=>by
  have d:=gC b;unfold Vu;split
  ·split
   ·trivial
   ·assumption
  ·rename_i t h;cases c:Vu b with
   |nil=>exact absurd c h
   |cons a l=>rw[c]at d;exact d
theorem qo:∀{ws},WG ws->WG (Vu ws)
 |[],_=>WG.nil
 |w::ws,h=>by
  have a:=qo h.cons.2;unfold Vu;split
  ·split
   ·exact WG.nil
   ·exact WG.mk h.cons.1 WG.nil
  ·exact WG.mk h.cons.1 a
theorem eh:∀{w ws},Canon (w::ws)->0<val (w::ws)
 |w,[],h=>by grind [Canon,val]
 |w,v::ws,h=>by
  have:=eh (w:=v) (ws:=ws) h
  grind [val]
theorem jV {w:Nat}{a:P'}(h:Canon (w::a)):Canon a:=by
 cases a with
 |nil=>trivial
 |cons v a=>exact h
theorem nk:∀{a b:P'},WG a->WG b->Canon a->Canon b->val a=val b->a=b
 |[],[],_,_,_,_,_=>rfl
 |[],w::ws,_,_,_,hb,h=>by grind [eh,val]
 |w::ws,[],_,_,ha,_,h=>by grind [eh,val]
 |x::xs,y::ys,da,db,ha,hb,h=>by
  simp only[val]at h;have c:=da.cons.1;have d:=db.cons.1;have e1:x=y:=by omega
  have e2:val xs=val ys:=by omega
  rw[e1,nk da.cons.2 db.cons.2 (jV ha) (jV hb) e2]
def Xd (n:Nat):P':=if h:n=0 then[]else n%4294967296::Xd (n / 4294967296)
termination_by n
decreasing_by omega
theorem Vn:Xd 0=[]:=by unfold Xd;simp
theorem To {n:Nat}(h:n≠0):Xd n=n%4294967296::Xd (n / 4294967296):=by
 rw[Xd];simp[h]
theorem Xm (n:Nat):val (Xd n)=n:=by
 induction n using Nat.strongRecOn with
 |ind n a=>
  grind [Vn,To,val]
theorem Xp (n:Nat):WG (Xd n):=by
 induction n using Nat.strongRecOn with
 |ind n a=>
  grind [Vn,WG.nil,To,WG.mk]
theorem Vc (n:Nat):Canon (Xd n):=by
 induction n using Nat.strongRecOn with
 |ind n a=>
  grind [Vn,To,Canon]
theorem CX {a:P'}(c:WG a)(b:Canon a){n:Nat}(d:val a=n):a=Xd n:=
 by grind [nk,Xp,Vc,Xm]
theorem U3 {a:P'}(b:WG a){n:Nat}(c:val a=n):Vu a=Xd n:=
 by grind [CX,qo,gC,qd]
theorem PC:∀(a b:P'),val (a++b)=val a+4294967296^a.length*val b
 |[],b=>by simp[val]
 |w::a,b=>by
  simp only[ZU,val,PC a b,Zi,ZQ]
  grind
theorem W3:∀{ws:P'},WG ws->val ws<4294967296^ws.length
 |[],_=>by simp[val]
 |w::ws,h=>by
  have:=W3 h.cons.2;have:=h.cons.1
  grind [val]
theorem Ue (n:Nat):val (List.replicate n 0)=0:=by
 induction n with
 |zero=>rfl
 |succ n a=>grind [val]
theorem TM:∀{ws:P'} {p w x:Nat},ws[p]? =some x->val (ws.set p w)+x*4294967296^p=val ws+w*4294967296^p
 |[],_,_,_,h=>by simp at h
 |v::ws,0,w,x,h=>by grind [val]
 |v::ws,p+1,w,x,h=>by
  have:=TM (ws:=ws) (p:=p) (w:=w) (x:=x) (by simpa using h)
  grind [val]
theorem WG.set {a:P'}(h:WG a)(p:Nat){w:Nat}(b:w<4294967296):WG (a.set p w):=by
 intro x c;rcases List.mem_or_eq_of_mem_set c with h1|h1
 ·exact h x h1
 ·subst h1;exact b
theorem WG.get {a:P'}(h:WG a){p w:Nat}(b:a[p]? =some w):w<4294967296:=h w (Zk b)
theorem WG.replicate (n:Nat):WG (List.replicate n 0):=by
 intro x a;grind
theorem Oq {a:P'}{p w:Nat}(h:a[p]? =some w):val (a.drop p)=w+4294967296*val (a.drop (p+1)):=by
 obtain⟨b,rfl⟩:=Zf.1 h;rw[Z5 b];rfl
theorem VI {a:P'}{p w:Nat}(h:a[p]? =some w):val (a.take (p+1))=val (a.take p)+w*4294967296^p:=by
 obtain⟨b,rfl⟩:=Zf.1 h;rw[List.take_add_one,PC,Zg b];simp only[Option.toList_some,val,ZX,Nat.mul_zero,Z0]
 grind
theorem cS:∀(a:P') (w:Nat),Vu (a++[w])=if w=0 then Vu a else a++[w]
 |[],w=>by simp[Vu]
 |x::a,w=>by
  have b:=cS a w;by_cases h:w=0
  ·grind [Vu]
  simp_all [Vu]
theorem ly {a:P'}{n w:Nat}(h:a[n]? =some w):a.take (n+1)=a.take n++[w]:=by grind [List.take_add_one]
theorem Ou:∀(a:P'),∃m,m<=a.length/\Vu a=a.take m
 |[]=>⟨0,by simp,rfl⟩
 |w::a=>by
  obtain⟨m,c,b⟩:=Ou a;unfold Vu;split
  ·split
   ·simp_all
   ·exact⟨1,by simp,by simp⟩
  ·rw[b];exact⟨m+1,by simp;omega,by simp⟩
theorem aU (a:P'):(Vu a).length<=a.length:=by
 obtain⟨m,b,c⟩:=Ou a
 grind
theorem fO (a:P'):Vu a=a.take (Vu a).length:=by
 obtain⟨m,b,c⟩:=Ou a
 grind
def dg:Nat->Nat->P'
 |0,_=>[]
 |n+1,v=>v%4294967296::dg n (v / 4294967296)
theorem Wd:∀(n v:Nat),(dg n v).length=n
 |0,_=>rfl
 |n+1,v=>by simp[dg,Wd n]
theorem jP:∀(n v:Nat),WG (dg n v)
 |0,_=>WG.nil
 |n+1,v=>WG.mk (by omega) (jP n _)
theorem nD:∀{n v:Nat},v<4294967296^n->val (dg n v)=v
 |0,v,h=>by simp_all [dg,val]
 |n+1,v,h=>by
  simp only[dg,val];rw[nD (Yl (by omega))];omega
theorem Gs:∀{r:P'},WG r->r=dg r.length (val r)
 |[],_=>rfl
 |w::r,h=>by
  have:=h.cons.1;simp only[Zi,dg,val];rw[show(w+4294967296*val r)%4294967296=w by omega,show(w+4294967296*val r) / 4294967296=val r by omega,<-Gs h.cons.2]
theorem Sh {n v:Nat}(h:v<4294967296^n):Vu (dg n v)=Xd v:=U3 (jP n v) (nD h)
theorem TZ {r:P'}{n v:Nat}(a:WG r)(b:r.length=n)(c:val r=v):r=dg n v:=by grind [Gs]
theorem VG {m n:Nat}(h:m<=n):4294967296^m<=4294967296^n:=Yt (by decide) h
theorem Px:∀{ws:P'},Canon ws->0<ws.length->4294967296^(ws.length-1)<=val ws
 |[],_,h=>by simp at h
 |[w],h,_=>by simp only[Canon]at h;simp only[val,Zi,Zr,Yg,YH,Nat.pow_zero];omega
 |w::v::ws,h,_=>by
  have:=Px (ws:=v::ws) h (by simp)
  grind [val]
theorem VK {n k:Nat}(h:n<4294967296^k):(Xd n).length<=k:=by
 rcases Yx k (Xd n).length with hk|hk
 ·have a:=Px (Vc n) (by omega)
  grind [Xm,Zx,VG]
 ·exact hk
theorem Sv (n:Nat):n<4294967296^(Xd n).length:=by grind [W3,Xp,Xm]
theorem XN {m n:Nat}(h:m<=n):(Xd m).length<=(Xd n).length:=VK (Z7 h (Sv n))
theorem UP (m n:Nat):(Xd (m*n)).length<=(Xd m).length+(Xd n).length:=
 by simp_all [VK,Yu,Nat.mul_lt_mul'',Sv]
theorem UQ (m n:Nat):(Xd (m+n)).length<=(Xd m).length+(Xd n).length+1:=by
 have a:=ZZ (Sv m) (VG (Nat.le_add_right _ (Xd n).length));have b:=ZZ (Sv n) (VG (Nat.le_add_left _ (Xd m).length));exact VK (by rw[ZQ];omega)
theorem cR (a:P')(i:Nat):val (a.take (i+1))=val (a.take i)+a[i]?.getD 0*4294967296^i:=by grind [Zd,VI]
theorem vk {U V T W p q D:Nat}(z:0<p)(b:W*p<=V)(c:V<(W+1)*p)(e:T*p<=U)(f:U<(T+1)*p)(x:D*p<=V)(i:q<=D)(g:U<V*(D+1))
  (d:q*W<=T) (a:D<=q\/T<(q+1)*W):U / V<=q/\q<=U / V+1:=by
 have y:0<V:=by
  grind
 constructor
 ·rcases a with a|a
  ·have :U / V<D+1:=Yl g;omega
  ·have w:U<(q+1)*V:=by
    have j:(T+1)*p<=((q+1)*W)*p:=Zn p a;have l:((q+1)*W)*p=(q+1)*(W*p):=Z3 ..;have m:(q+1)*(W*p)<=(q+1)*V:=Yb _ b;omega
   have :U / V<q+1:=Yl (by grind);omega
 ·rcases Yx (U / V+1) q with h|h
  ·exfalso;have n:U<(U / V+1)*V:=by
    simp_all [Nat.lt_mul_div_succ,ZR]
   have o:(U / V+1)*V<=(q-1)*V:=Zn V (Nat.le_sub_one_of_lt h);have r:q*W*p<=T*p:=Zn p d;have s:q*V<=q*((W+1)*p):=Yb q (Nat.le_of_lt c);have t:q*((W+1)*p)=q*W*p+q*p:=by grind
   have u:q*p<=D*p:=Zn p i;have v:(q-1)*V+V=q*V:=by
    obtain⟨k,rfl⟩:∃k,q=k+1:=⟨q-1,(YZ (Zx (Nat.succ_le_succ (Zw _)) h)).symm⟩
    grind
   omega
  ·exact h
theorem S8:∀(m n v:Nat),dg (m+n) v=dg m v++dg n (v / 4294967296^m)
 |0,n,v=>by simp[dg]
 |m+1,n,v=>by
  rw[show m+1+n=(m+n)+1 by omega];simp only[dg,ZU,S8 m n,YX,ZQ]
  grind
theorem oU:∀n,dg n 0=List.replicate n 0
 |0=>rfl
 |n+1=>by simp[dg,oU n,List.replicate_succ]
theorem vE:∀(n v:Nat),dg n (v%4294967296^n)=dg n v
 |0,_=>rfl
 |n+1,v=>by
  simp only[dg];have a:v%4294967296^(n+1)%4294967296=v%4294967296:=by
   simp_all [ZQ]
  have b:v%4294967296^(n+1) / 4294967296=(v / 4294967296)%4294967296^n:=by
   grind [Nat.mod_mul_right_div_self]
  rw[a,b,vE n]
theorem Ea {m n v:Nat}(h:m<=n):(dg n v).take m=dg m v:=by
 obtain⟨k,rfl⟩:=Nat.exists_eq_add_of_le h
 grind [S8,Wd]
theorem FI {m n v:Nat}(h:m<=n):(dg n v).drop m=dg (n-m) (v / 4294967296^m):=by
 obtain⟨k,rfl⟩:=Nat.exists_eq_add_of_le h
 grind [S8,Wd]
theorem dO {n v i:Nat}(h:i<n):(dg n v)[i]? =some (v / 4294967296^i%4294967296):=by
 have a:=FI (m:=i) (n:=n) (v:=v) (by omega);obtain⟨k,b⟩:∃k,n-i=k+1:=⟨n-i-1,by omega⟩;rw[b,dg]at a;have:=congrArg (·[0]?) a;simpa using this
def tJ (V n:Nat):Prop:=4294967296^n<=2*V/\V<4294967296^n
abbrev Tm:=Int×P'
def WJ:P'->P'->Int
 |a::as1,b::bs=>if a<b then .negSucc 0 else if b<a then .ofNat 1 else WJ as1 bs
 |_,_=>.ofNat 0
def Xg (m n:P'):P':=List.zipWith (·+ ·) m n
theorem Qa:∀m,WJ m m=.ofNat 0
 |[]=>rfl
 |a::m=>by simp only[WJ,Zv,if_false];exact Qa m
theorem S9:∀{m n:P'},m.length=n.length->WJ m n=.ofNat 0->m=n
 |[],[],_,_=>rfl
 |[],_::_,h,_=>by simp at h
 |_::_,[],h,_=>by simp at h
 |a::m,b::n,h,hc=>by
  simp only[WJ]at hc;split at hc
  ·cases hc
  ·split at hc
   ·simp at hc
   ·rw[S9 (by simpa using h) hc,show a=b by omega]
theorem VX:∀(m n:P'),WJ m n=.ofNat 1\/WJ m n=.negSucc 0\/WJ m n=.ofNat 0
 |[],[]=>.inr (.inr rfl)
 |[],_::_=>.inr (.inr rfl)
 |_::_,[]=>.inr (.inr rfl)
 |a::m,b::n=>by
  simp only[WJ];split
  ·exact .inr (.inl rfl)
  ·split
   ·exact .inl rfl
   ·exact VX m n
def pair:List Tm->(P'->Int)->Int
 |[],_=>0
 |t::ts,φ=>t.1*φ t.2+pair ts φ
abbrev Qm:=Rat×P'
def Wh:List Qm->List Qm->List Qm
 |[],us=>us
 |ts,[]=>ts
 |t::ts,u::us=>
  if WJ t.2 u.2=.ofNat 1 then t::Wh ts (u::us)
  else if WJ t.2 u.2=.negSucc 0 then u::Wh (t::ts) us
  else if t.1+u.1=0 then Wh ts us else(t.1+u.1,t.2)::Wh ts us
termination_by ts us=>ts.length+us.length
theorem X6 (a:List Qm):Wh [] a=a:=by unfold Wh;rfl
theorem W9 (a:List Qm):Wh a []=a:=by cases a<;>(unfold Wh;rfl)
theorem Ra (t u:Qm)(a b:List Qm):Wh (t::a) (u::b)=if WJ t.2 u.2=.ofNat 1 then t::Wh a (u::b)
  else if WJ t.2 u.2=.negSucc 0 then u::Wh (t::a) b
  else if t.1+u.1=0 then Wh a b else(t.1+u.1,t.2)::Wh a b:=by
 rw[Wh]
def X2:List Qm->(P'->Rat)->Rat
 |[],_=>0
 |t::ts,φ=>t.1*φ t.2+X2 ts φ
def Q8 (ts:List Qm):Prop:=∀t∈ts,t.2.length=8
theorem Q8.tail {t:Qm}{a:List Qm}(h:Q8 (t::a)):Q8 a:=fun x b=>h x (Zb _ b)
theorem Q8.head {t:Qm}{a:List Qm}(h:Q8 (t::a)):t.2.length=8:=h t (Zc ..)
theorem VC (f:P'->Rat):∀(n:Nat) (c d:List Qm),c.length+d.length<=n->Q8 c->Q8 d->X2 (Wh c d) f=X2 c f+X2 d f
 |_,[],d,_,_,_=>by rw[X6];simp only[X2];grind
 |_,t::c,[],_,_,_=>by rw[W9];simp only[X2];grind
 |0,t::c,u::d,h,_,_=>by simp at h
 |n+1,t::c,u::d,h,h1,h2=>by
  simp only[Zi]at h;rw[Ra];split
  ·simp only[X2,VC f n c (u::d) (by simp;omega) h1.tail h2];grind
  ·split
   ·simp only[X2,VC f n (t::c) d (by simp;omega) h1 h2.tail];grind
   ·rename_i a b;have e:WJ t.2 u.2=.ofNat 0:=by
     rcases VX t.2 u.2 with q|q|q
     ·exact absurd q a
     ·exact absurd q b
     ·exact q
    have e2:=S9 (by rw[h1.head,h2.head]) e;have g:=VC f n c d (by omega) h1.tail h2.tail;split
    ·rename_i z;simp only[X2,g];rw[<-e2];have :t.1*f t.2+u.1*f t.2=0:=by rw[<-Rat.add_mul,z,Rat.zero_mul]
     grind
    ·simp only[X2,g];rw[<-e2,Rat.add_mul];grind
def XG (z:Rat)(m:P')(ts:List Qm):List Qm:=ts.map fun t=>(z*t.1,Xg m t.2)
def X1 (z:Rat)(ts:List Qm):List Qm:=ts.map fun t=>(z*t.1,t.2)
def Wu (ts:List Qm):List Qm:=X1 (-1) ts
theorem Tr (z:Rat)(m:P')(b:P'->Rat):∀a,X2 (XG z m a) b=z*X2 a fun k=>b (Xg m k)
 |[]=>by simp[XG,X2]
 |t::a=>by
  have c:=Tr z m b a;unfold XG at c;simp only[XG,Zt,X2,c]
  grind
theorem Ny (z:Rat)(b:P'->Rat):∀a,X2 (X1 z a) b=z*X2 a b
 |[]=>by simp[X1,X2]
 |t::a=>by
  have c:=Ny z b a;unfold X1 at c;simp only[X1,Zt,X2,c]
  grind
theorem RR (b:P'->Rat)(a:List Qm):X2 (Wu a) b= -X2 a b:=by
 unfold Wu;rw[Ny];grind
def WY (acc:List Qm):List Qm->List Qm->List Qm
 |[],_=>acc
 |t::ts,us=>WY (Wh acc (XG t.1 t.2 us)) ts us
theorem Ua {b ψ:P'->Rat}:∀{a:List Qm},(∀t∈a,b t.2=ψ t.2)->X2 a b=X2 a ψ
 |[],_=>rfl
 |t::a,h=>by
  simp only[X2];rw[h t (by simp),Ua fun x c=>h x (Zb _ c)]
theorem wC (b c:P'->Rat):∀a,(X2 a fun m=>b m+c m)=X2 a b+X2 a c
 |[]=>by simp only[X2];grind
 |t::a=>by simp only[X2,wC b c a];grind
theorem iE (z:Rat)(b:P'->Rat):∀a,(X2 a fun m=>z*b m)=z*X2 a b
 |[]=>by simp[X2]
 |t::a=>by simp only[X2,iE z b a];grind
theorem Pb:∀a,(X2 a fun _=>0)=0
 |[]=>rfl
 |t::a=>by simp only[X2,Pb a];grind
theorem q7 (c:P'->P'->Rat):∀(b a:List Qm),(X2 b fun m=>X2 a fun k=>c m k)=X2 a fun k=>X2 b fun m=>c m k
 |[],a=>by simp only[X2,Pb]
 |t::b,a=>by
  simp only[X2,q7 c b a];rw[<-iE,<-wC]
structure Om (ts:List Qm):Prop where
 nz:∀t∈ts,t.1≠0
 pw:ts.Pairwise fun t u=>WJ t.2 u.2=.ofNat 1
theorem Om.tail {t:Qm}{a:List Qm}(h:Om (t::a)):Om a:=⟨fun x b=>h.nz x (Zb _ b),(Zu.1 h.pw).2⟩
theorem Om.nil:Om []:=⟨(fun _ h=>by cases h),.nil⟩
theorem Om.cons {t:Qm}{b:List Qm}(h0:t.1≠0)(h:Om b)(c:∀u∈b,WJ t.2 u.2=.ofNat 1):Om (t::b):=
 ⟨fun x a=>by rcases Zj.1 a with rfl|a;exact h0;exact h.nz x a,Zu.2 ⟨c,h.pw⟩⟩
def SN (ts:List Qm)(m:P'):Rat:=X2 ts fun k=>if k=m then 1 else 0
theorem jS (m:P'):SN [] m=0:=rfl
theorem NO (t:Qm)(a:List Qm)(m:P'):SN (t::a) m=(if t.2=m then t.1 else 0)+SN a m:=by
 unfold SN;simp only[X2];split<;>grind
theorem Pv {a:List Qm}{m:P'}(h:∀t∈a,t.2≠m):SN a m=0:=by
 unfold SN;rw[Ua (ψ:=fun _=>0) fun t b=>if_neg (h t b),Pb]
theorem o9 {m n:P'}(h:WJ m n=.ofNat 1):m≠n:=by
 intro e;subst e;rw[Qa]at h;simp at h
theorem Om.Ti:∀{a:List Qm},Om a->∀t∈a,SN a t.2=t.1
 |u::a,h,t,ht=>by
  rw[NO];rcases Zj.1 ht with rfl|ht
  ·rw[if_pos rfl,Pv fun x b e=>o9 ((Zu.1 h.pw).1 x b) e.symm];grind
  ·rw[if_neg (o9 ((Zu.1 h.pw).1 t ht)),h.tail.Ti t ht];grind
theorem Om.mem_iff {b:List Qm}(h:Om b)(m:P'):SN b m≠0↔∃t∈b,t.2=m:=by
 constructor
 ·intro c;by_cases e:∃t∈b,t.2=m
  ·exact e
  ·exact absurd (Pv fun t a d=>e ⟨t,a,d⟩) c
 ·rintro ⟨t,a,rfl⟩;rw[h.Ti t a];exact h.nz t a
theorem jT:∀{m n:P'},WJ m n=.ofNat 1->WJ n m=.negSucc 0
 |[],[],h=>by simp[WJ]at h
 |[],_::_,h=>by simp[WJ]at h
 |_::_,[],h=>by simp[WJ]at h
 |a::m,b::n,h=>by
  simp only[WJ]at h⊢;split at h
  ·cases h
  ·split at h
   ·rename_i d c;rw[if_pos c]
   ·rename_i d c;rw[if_neg c,if_neg d];exact jT h
theorem Om.ext:∀{a b:List Qm},Om a->Om b->(∀m,SN a m=SN b m)->a=b
 |[],[],_,_,_=>rfl
 |[],u::b,_,h2,h=>by
  have:=h2.Ti u (Zc ..);rw[<-h,jS]at this;exact absurd this.symm (h2.nz u (Zc ..))
 |t::a,[],h1,_,h=>by
  have:=h1.Ti t (Zc ..);rw[h,jS]at this;exact absurd this.symm (h1.nz t (Zc ..))
 |t::a,u::b,h1,h2,h=>by
  obtain⟨x,e,j⟩:=(h2.mem_iff t.2).1 (by rw[<-h,h1.Ti t (Zc ..)];exact h1.nz t (Zc ..));obtain⟨y,f,k⟩:=(h1.mem_iff u.2).1 (by rw[h,h2.Ti u (Zc ..)];exact h2.nz u (Zc ..));have i:t.2=u.2:=by
   rcases Zj.1 e with rfl|e
   ·exact j.symm
   ·rcases Zj.1 f with rfl|f
    ·exact k
    ·exfalso;have g:=(Zu.1 h2.pw).1 x e;have c:=(Zu.1 h1.pw).1 y f;rw[j]at g;rw[k]at c;rw[jT g]at c;cases c
  have l:t.1=u.1:=by rw[<-h1.Ti t (Zc ..),<-h2.Ti u (Zc ..),h,i]
  have d:t=u:=Prod.ext l i;subst d;rw[Om.ext h1.tail h2.tail fun m=>by
   have:=h m;rw[NO,NO]at this;exact Rat.add_left_cancel _ this]
theorem RJ {a b:Rat}(c:a≠0)(d:b≠0):a*b≠0:=fun h=>(Rat.mul_eq_zero.1 h).elim c d
theorem ng:∀(m n:P'),WJ n m=.negSucc 0↔WJ m n=.ofNat 1
 |[],[]=>by simp[WJ]
 |[],_::_=>by simp[WJ]
 |_::_,[]=>by simp[WJ]
 |a::m,b::n=>by
  simp only[WJ];by_cases d:b<a
  ·have c:¬a<b:=by omega
   simp[d,c]
  ·by_cases c:a<b
   ·simp[d,c]
   ·simp only[d,c,if_false];exact ng m n
theorem aI:∀{l m n:P'},l.length=m.length->m.length=n.length->WJ l m=.ofNat 1->WJ m n=.ofNat 1->WJ l n=.ofNat 1
 |[],_,_,_,_,h,_=>by simp[WJ]at h
 |_::_,[],_,h,_,_,_=>by simp at h
 |_::_,_::_,[],_,h,_,_=>by simp at h
 |a::l,b::m,c::n,h1,h2,h3,h4=>by
  simp only[WJ]at h3 h4⊢;by_cases d:a<b
  ·simp[d]at h3
  ·by_cases e:b<c
   ·simp[e]at h4
   ·by_cases f:b<a
    ·have :c<a:=by omega
     have :¬a<c:=by omega
     simp[*]
    ·by_cases g:c<b
     ·have :c<a:=by omega
      have :¬a<c:=by omega
      simp[*]
     ·simp only[d,f,if_false]at h3;simp only[e,g,if_false]at h4;have :¬a<c:=by omega
      have :¬c<a:=by omega
      simp only[*,if_false];exact aI (by simpa using h1) (by simpa using h2) h3 h4
theorem Vj:∀(n:Nat) {b c:List Qm} {x:Qm},b.length+c.length<=n->Q8 b->Q8 c->x∈Wh b c->(∃t∈b,t.2=x.2)\/∃u∈c,u.2=x.2
 |_,[],c,x,_,_,_,h=>by rw[X6]at h;exact .inr ⟨x,h,rfl⟩
 |_,t::b,[],x,_,_,_,h=>by rw[W9]at h;exact .inl ⟨x,h,rfl⟩
 |0,_::_,_::_,_,h,_,_,_=>by simp at h
 |n+1,t::b,u::c,x,hn,h1,h2,h=>by
  have f:Q8 b:=fun x d=>h1 x (Zb _ d)
  have g:Q8 c:=fun x d=>h2 x (Zb _ d)
  simp only[Zi]at hn;rw[Ra]at h;split at h
  ·rcases Zj.1 h with rfl|h
   ·exact .inl ⟨_,Zc ..,rfl⟩
   ·rcases Vj n (by simp;omega) f h2 h with⟨y,a,e⟩|⟨y,a,e⟩
    ·exact .inl ⟨y,Zb _ a,e⟩
    ·exact .inr ⟨y,a,e⟩
  ·split at h
   ·rcases Zj.1 h with rfl|h
    ·exact .inr ⟨_,Zc ..,rfl⟩
    ·rcases Vj n (by simp;omega) h1 g h with⟨y,a,e⟩|⟨y,a,e⟩
     ·exact .inl ⟨y,a,e⟩
     ·exact .inr ⟨y,Zb _ a,e⟩
   ·have key:x∈Wh b c->(∃y∈t::b,y.2=x.2)\/∃y∈u::c,y.2=x.2:=by
     intro h;rcases Vj n (by omega) f g h with⟨y,a,e⟩|⟨y,a,e⟩
     ·exact .inl ⟨y,Zb _ a,e⟩
     ·exact .inr ⟨y,Zb _ a,e⟩
    split at h
    ·exact key h
    ·rcases Zj.1 h with rfl|h
     ·exact .inl ⟨t,Zc ..,rfl⟩
     ·exact key h
theorem RQ {d f:List Qm}(b:Q8 d)(c:Q8 f):Q8 (Wh d f):=by
 intro x g;rcases Vj _ (Ze _) b c g with⟨y,a,e⟩|⟨y,a,e⟩
 ·rw[<-e];exact b y a
 ·rw[<-e];exact c y a
theorem cm:∀(n:Nat) {g i:List Qm},g.length+i.length<=n->Q8 g->Q8 i->Om g->Om i->Om (Wh g i)
 |_,[],i,_,_,_,_,h=>by rw[X6];exact h
 |_,t::g,[],_,_,_,h,_=>by rw[W9];exact h
 |0,_::_,_::_,h,_,_,_,_=>by simp at h
 |n+1,t::g,u::i,hn,h1,h2,d1,d2=>by
  have j:Q8 g:=fun x f=>h1 x (Zb _ f)
  have k:Q8 i:=fun x f=>h2 x (Zb _ f)
  have p:=h1 t (Zc ..);have r:=h2 u (Zc ..);have l:=(Zu.1 d1.pw).1;have m:=(Zu.1 d2.pw).1;simp only[Zi]at hn;rw[Ra];split
  ·rename_i e;refine Om.cons (d1.nz t (Zc ..)) (cm n (by simp;omega) j h2 d1.tail d2) fun x f=> ?_
   rcases Vj _ (Ze _) j h2 f with⟨y,c,d⟩|⟨y,c,d⟩
   ·rw[<-d];exact l y c
   ·rw[<-d];rcases Zj.1 c with rfl|c
    ·exact e
    ·exact aI (by omega) (by rw[r,k y c]) e (m y c)
  ·split
   ·rename_i e;have e:=(ng u.2 t.2).1 e;refine Om.cons (d2.nz u (Zc ..)) (cm n (by simp;omega) h1 k d1 d2.tail) fun x f=> ?_
    rcases Vj _ (Ze _) h1 k f with⟨y,c,d⟩|⟨y,c,d⟩
    ·rw[<-d];rcases Zj.1 c with rfl|c
     ·exact e
     ·exact aI (by omega) (by rw[p,j y c]) e (l y c)
    ·rw[<-d];exact m y c
   ·rename_i a b;have e:WJ t.2 u.2=.ofNat 0:=by
     rcases VX t.2 u.2 with q|q|q
     ·exact absurd q a
     ·exact absurd q b
     ·exact q
    have e2:=S9 (by omega) e;have o:=cm n (by omega) j k d1.tail d2.tail;split
    ·exact o
    ·rename_i z;refine Om.cons z o fun x f=> ?_
     rcases Vj _ (Ze _) j k f with⟨y,c,d⟩|⟨y,c,d⟩
     ·rw[<-d];exact l y c
     ·rw[<-d];simp only[];rw[e2];exact m y c
theorem AA {m n:P'}(a:m.length=8)(b:n.length=8):(Xg m n).length=8:=by simp[Xg,a,b]
theorem aL:∀(m a b:P'),m.length=a.length->a.length=b.length->WJ (Xg m a) (Xg m b)=WJ a b
 |[],[],[],_,_=>rfl
 |[],_::_,_,h,_=>by simp at h
 |_::_,[],_,h,_=>by simp at h
 |_,[],_::_,_,h=>by simp at h
 |_,_::_,[],_,h=>by simp at h
 |x::m,y::a,z::b,h1,h2=>by
  have c:=aL m a b (by simpa using h1) (by simpa using h2);unfold Xg at c⊢;simp only[ZC,WJ];by_cases d:y<z
  ·rw[if_pos d,if_pos (by omega)]
  ·rw[if_neg d,if_neg (by omega)];by_cases e:z<y
   ·rw[if_pos e,if_pos (by omega)]
   ·rw[if_neg e,if_neg (by omega)];exact c
theorem V9 {z:Rat}{m:P'}(c:m.length=8){b:List Qm}(h:Q8 b):Q8 (XG z m b):=by
 intro x a;simp only[XG,ZM]at a;obtain⟨t,d,rfl⟩:=a;exact AA c (h t d)
theorem ee {z:Rat}(d:z≠0){m:P'}(f:m.length=8):∀{a:List Qm},Q8 a->Om a->Om (XG z m a)
 |[],_,_=>Om.nil
 |t::a,hw,h=>by
  have e:Q8 a:=fun x b=>hw x (Zb _ b)
  have g:=ee d f e h.tail;refine Om.cons (t:=(z*t.1,Xg m t.2)) (RJ d (h.nz t (Zc ..))) g fun x b=> ?_
  simp only[ZM]at b;obtain⟨u,c,rfl⟩:=b;have i:=hw t (Zc ..);have j:=e u c;simp only[];rw[aL m t.2 u.2 (by omega) (by omega)];exact(Zu.1 h.pw).1 u c
theorem nY:∀{b c a:List Qm},Q8 b->Q8 c->Q8 a->Q8 (WY a b c)
 |[],_,_,_,_,h=>h
 |t::b,c,a,h1,h2,h3=>by
  simp only[WY];exact nY (fun x d=>h1 x (Zb _ d)) h2 (RQ h3 (V9 (h1 t (Zc ..)) h2))
theorem gl:∀{b c a:List Qm},Q8 b->Q8 c->Q8 a->(∀t∈b,t.1≠0)->Om c->Om a->Om (WY a b c)
 |[],_,_,_,_,_,_,_,h=>h
 |t::b,c,a,h1,h2,h3,h4,h5,h6=>by
  simp only[WY];have l:=h1 t (Zc ..);exact gl (fun x d=>h1 x (Zb _ d)) h2 (RQ h3 (V9 l h2)) (fun x d=>h4 x (Zb _ d)) h5 (cm _ (Ze _) h3 (V9 l h2) h6 (ee (h4 t (Zc ..)) l h2 h5))
theorem bB (c:P'->Rat):∀{d b a:List Qm},Q8 d->Q8 b->Q8 a->X2 (WY a d b) c=X2 a c+X2 d fun m=>X2 b fun k=>c (Xg m k)
 |[],b,a,_,_,_=>by simp only[WY,X2];grind
 |t::d,b,a,h1,h2,h3=>by
  have l:=h1 t (Zc ..);simp only[WY];rw[bB c (fun x e=>h1 x (Zb _ e)) h2 (RQ h3 (V9 l h2)),VC c _ _ _ (Ze _) h3 (V9 l h2),Tr];simp only[X2];grind
theorem tF {e f:Nat}:∀{m n:P'},(∀x∈m,x<=e)->(∀x∈n,x<=f)->∀x∈Xg m n,x<=e+f
 |[],_,_,_,x,hx=>by simp[Xg]at hx
 |_::_,[],_,_,x,hx=>by simp[Xg]at hx
 |a::m,b::n,h1,h2,x,hx=>by
  unfold Xg at hx;rw[ZC]at hx;rcases Zj.1 hx with rfl|hx
  ·have:=h1 a (Zc ..);have:=h2 b (Zc ..);omega
  ·exact tF (fun y c=>h1 y (Zb _ c)) (fun y c=>h2 y (Zb _ c)) x hx
theorem UO:∀(n:Nat) (a b:List Qm),a.length+b.length<=n->(Wh a b).length<=a.length+b.length
 |_,[],b,_=>by rw[X6];simp
 |_,t::a,[],_=>by rw[W9];simp
 |0,t::a,u::b,h=>by simp at h
 |n+1,t::a,u::b,h=>by
  simp only[Zi]at h;have c:=UO n a (u::b) (by simp;omega);have d:=UO n (t::a) b (by simp;omega);have e:=UO n a b (by omega);simp only[Zi]at c d;rw[Ra];split
  ·simp only[Zi];omega
  ·split
   ·simp only[Zi];omega
   ·split
    ·simp only[Zi];omega
    ·simp only[Zi];omega
theorem rF:∀(c b a:List Qm),(WY a c b).length<=a.length+c.length*b.length
 |[],_,_=>by simp[WY]
 |t::c,b,a=>by
  have d:=rF c b (Wh a (XG t.1 t.2 b));have e:=UO _ a (XG t.1 t.2 b) (Ze _);have f:(XG t.1 t.2 b).length=b.length:=by simp[XG]
  simp only[WY,Zi,ZG,Z4];omega
end Go.Num
namespace Go
abbrev Z':=List Go.Num.Qm
abbrev S':=List (List Go.Num.Qm)
end Go
