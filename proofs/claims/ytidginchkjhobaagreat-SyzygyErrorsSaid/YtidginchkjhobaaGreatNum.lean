/- Numbers as lists of words: plain facts, no program in sight. -/
import Derived.Test.YtidginchkjhobaaGreatZ
namespace Go.Num
def B:Nat:=4294967296
def val:List Nat->Nat
 |[]=>0
 |w::ws=>w+4294967296*val ws
def Wz (ws:List Nat):Prop:=∀w∈ws,w<4294967296
theorem Wz.cons {w:Nat}{a:List Nat}(h:Wz (w::a)):w<4294967296/\Wz a:=⟨h w (by simp),fun x b=>h x (by simp[b])⟩
theorem Wz.mk {w:Nat}{b:List Nat}(h:w<4294967296)(k:Wz b):Wz (w::b):=by
 intro x a;rcases Zj.1 a with rfl|a
 ·exact h
 ·exact k x a
theorem Wz.nil:Wz []:=fun _ h=>by cases h
def Va:List Nat->List Nat
 |[]=>[]
 |w::ws=>match Va ws with
  |[]=>if w=0 then[]else[w]
  |t=>w::t
theorem mH:∀a,val (Va a)=val a
 |[]=>rfl
 |w::a=>by
  have b:=mH a;unfold Va;split
  ·rename_i h;rw[h]at b;simp only[val]at b;split
   ·simp only[val];omega
   ·simp only[val];omega
  ·simp only[val,b]
def Canon:List Nat->Prop
 |[]=>True
 |[w]=>w≠0
 |_::v::ws=>Canon (v::ws)
theorem eF:∀b,Canon (Va b)
 |[]=>trivial
 |w::b=>by
  have d:=eF b;unfold Va;split
  ·split
   ·trivial
   ·assumption
  ·rename_i t h;cases c:Va b with
   |nil=>exact absurd c h
   |cons a l=>rw[c]at d;exact d
theorem mP:∀{ws},Wz ws->Wz (Va ws)
 |[],_=>Wz.nil
 |w::ws,h=>by
  have a:=mP h.cons.2;unfold Va;split
  ·split
   ·exact Wz.nil
   ·exact Wz.mk h.cons.1 Wz.nil
  ·exact Wz.mk h.cons.1 a
theorem ct:∀{w ws},Canon (w::ws)->0<val (w::ws)
 |w,[],h=>by simp only[Canon]at h;simp only[val];omega
 |w,v::ws,h=>by
  have:=ct (w:=v) (ws:=ws) h;simp only[val]at this⊢;omega
theorem gK {w:Nat}{a:List Nat}(h:Canon (w::a)):Canon a:=by
 cases a with
 |nil=>trivial
 |cons v a=>exact h
theorem jW:∀{a b:List Nat},Wz a->Wz b->Canon a->Canon b->val a=val b->a=b
 |[],[],_,_,_,_,_=>rfl
 |[],w::ws,_,_,_,hb,h=>by have:=ct hb;simp only[val]at h this;omega
 |w::ws,[],_,_,ha,_,h=>by have:=ct ha;simp only[val]at h this;omega
 |x::xs,y::ys,da,db,ha,hb,h=>by
  simp only[val]at h;have c:=da.cons.1;have d:=db.cons.1;have e1:x=y:=by omega
  have e2:val xs=val ys:=by omega
  rw[e1,jW da.cons.2 db.cons.2 (gK ha) (gK hb) e2]
def Xd (n:Nat):List Nat:=if h:n=0 then[]else n%4294967296::Xd (n / 4294967296)
termination_by n
decreasing_by omega
theorem WU:Xd 0=[]:=by unfold Xd;simp
theorem Uu {n:Nat}(h:n≠0):Xd n=n%4294967296::Xd (n / 4294967296):=by
 rw[Xd];simp[h]
theorem Xl (n:Nat):val (Xd n)=n:=by
 induction n using Nat.strongRecOn with
 |ind n a=>
  by_cases h:n=0
  ·subst h;rw[WU];rfl
  ·rw[Uu h];simp only[val];rw[a _ (by omega)];omega
theorem Xo (n:Nat):Wz (Xd n):=by
 induction n using Nat.strongRecOn with
 |ind n a=>
  by_cases h:n=0
  ·subst h;rw[WU];exact Wz.nil
  ·rw[Uu h];exact Wz.mk (by omega) (a _ (by omega))
theorem W0 (n:Nat):Canon (Xd n):=by
 induction n using Nat.strongRecOn with
 |ind n b=>
  by_cases h:n=0
  ·subst h;rw[WU];trivial
  ·rw[Uu h];have:=b (n / 4294967296) (by omega);by_cases a:n / 4294967296=0
   ·rw[a,WU];simp only[Canon];omega
   ·rw[Uu a]at this⊢;exact this
theorem zI {a:List Nat}(c:Wz a)(b:Canon a){n:Nat}(d:val a=n):a=Xd n:=
 jW c (Xo n) b (W0 n) (by rw[d,Xl])
theorem UH {a:List Nat}(b:Wz a){n:Nat}(c:val a=n):Va a=Xd n:=
 zI (mP b) (eF a) (by rw[mH,c])
theorem QN:∀(a b:List Nat),val (a++b)=val a+4294967296^a.length*val b
 |[],b=>by simp[val]
 |w::a,b=>by
  simp only[ZI,val,QN a b,Zi,ZK]
  grind
theorem WW:∀{ws:List Nat},Wz ws->val ws<4294967296^ws.length
 |[],_=>by simp[val]
 |w::ws,h=>by
  have:=WW h.cons.2;have:=h.cons.1;simp only[val,Zi,ZK];omega
theorem VO (n:Nat):val (List.replicate n 0)=0:=by
 induction n with
 |zero=>rfl
 |succ n a=>simp only[List.replicate_succ,val,a]
theorem Tm:∀{ws:List Nat} {p w x:Nat},ws[p]? =some x->val (ws.set p w)+x*4294967296^p=val ws+w*4294967296^p
 |[],_,_,_,h=>by simp at h
 |v::ws,0,w,x,h=>by simp at h;subst h;simp only[List.set_cons_zero,val];omega
 |v::ws,p+1,w,x,h=>by
  have:=Tm (ws:=ws) (p:=p) (w:=w) (x:=x) (by simpa using h);simp only[Y3,val,ZK]
  grind
theorem Wz.set {a:List Nat}(h:Wz a)(p:Nat){w:Nat}(b:w<4294967296):Wz (a.set p w):=by
 intro x c;rcases List.mem_or_eq_of_mem_set c with h1|h1
 ·exact h x h1
 ·subst h1;exact b
theorem Wz.get {a:List Nat}(h:Wz a){p w:Nat}(b:a[p]? =some w):w<4294967296:=h w (Zn b)
theorem Wz.replicate (n:Nat):Wz (List.replicate n 0):=by
 intro x a;rw[List.eq_of_mem_replicate a];decide
theorem Pz {a:List Nat}{p w:Nat}(h:a[p]? =some w):val (a.drop p)=w+4294967296*val (a.drop (p+1)):=by
 obtain⟨b,rfl⟩:=Zb.1 h;rw[ZV b];rfl
theorem Vl {a:List Nat}{p w:Nat}(h:a[p]? =some w):val (a.take (p+1))=val (a.take p)+w*4294967296^p:=by
 obtain⟨b,rfl⟩:=Zb.1 h;rw[List.take_add_one,QN,Zf b];simp only[Option.toList_some,val,ZO,Nat.mul_zero,Yk];rw[Yt (by omega),ZH]
theorem ba:∀(a:List Nat) (w:Nat),Va (a++[w])=if w=0 then Va a else a++[w]
 |[],w=>by simp[Va]
 |x::a,w=>by
  have c:=ba a w;by_cases h:w=0
  ·rw[if_pos h]at c⊢;simp only[ZI,Va,c]
  ·rw[if_neg h]at c⊢;simp only[ZI,Va,c];cases d:a++[w]with
   |nil=>simp at d
   |cons b l=>rfl
theorem iT {a:List Nat}{n w:Nat}(h:a[n]? =some w):a.take (n+1)=a.take n++[w]:=by
 rw[List.take_add_one,h];rfl
theorem PA:∀(a:List Nat),∃m,m<=a.length/\Va a=a.take m
 |[]=>⟨0,by simp,rfl⟩
 |w::a=>by
  obtain⟨m,c,b⟩:=PA a;unfold Va;split
  ·split
   ·exact⟨0,by simp,by simp⟩
   ·exact⟨1,by simp,by simp⟩
  ·rw[b];exact⟨m+1,by simp;omega,by simp⟩
theorem NO (a:List Nat):(Va a).length<=a.length:=by
 obtain⟨m,c,b⟩:=PA a;rw[b,ZO];omega
theorem dN (a:List Nat):Va a=a.take (Va a).length:=by
 obtain⟨m,b,c⟩:=PA a;rw[c,ZO,Yt b]
def dg:Nat->Nat->List Nat
 |0,_=>[]
 |n+1,v=>v%4294967296::dg n (v / 4294967296)
theorem X9:∀(n v:Nat),(dg n v).length=n
 |0,_=>rfl
 |n+1,v=>by simp[dg,X9 n]
theorem gG:∀(n v:Nat),Wz (dg n v)
 |0,_=>Wz.nil
 |n+1,v=>Wz.mk (by omega) (gG n _)
theorem kr:∀{n v:Nat},v<4294967296^n->val (dg n v)=v
 |0,v,h=>by simp only[Nat.pow_zero]at h;simp only[dg,val];omega
 |n+1,v,h=>by
  simp only[dg,val];rw[ZK]at h;rw[kr (Yp (by rw[ZH];exact h))];omega
theorem CF:∀{r:List Nat},Wz r->r=dg r.length (val r)
 |[],_=>rfl
 |w::r,h=>by
  have:=h.cons.1;simp only[Zi,dg,val];rw[show(w+4294967296*val r)%4294967296=w by omega,show(w+4294967296*val r) / 4294967296=val r by omega,<-CF h.cons.2]
theorem TJ {n v:Nat}(h:v<4294967296^n):Va (dg n v)=Xd v:=UH (gG n v) (kr h)
theorem Tx {r:List Nat}{n v:Nat}(a:Wz r)(b:r.length=n)(c:val r=v):r=dg n v:=by
 subst b;subst c;exact CF a
theorem Vj {m n:Nat}(h:m<=n):4294967296^m<=4294967296^n:=Nat.pow_le_pow_right (by decide) h
theorem QF:∀{ws:List Nat},Canon ws->0<ws.length->4294967296^(ws.length-1)<=val ws
 |[],_,h=>by simp at h
 |[w],h,_=>by simp only[Canon]at h;simp only[val,Zi,Zu,Z8,YV,Nat.pow_zero];omega
 |w::v::ws,h,_=>by
  have:=QF (ws:=v::ws) h (by simp);simp only[Zi,Yl]at this⊢;rw[ZK];simp only[val]at this⊢;omega
theorem Vo {n k:Nat}(h:n<4294967296^k):(Xd n).length<=k:=by
 rcases Yj k (Xd n).length with hk|hk
 ·have a:=QF (W0 n) (by omega);rw[Xl]at a;have:=Zy (Vj (show k<=(Xd n).length-1 by omega)) a;omega
 ·exact hk
theorem Te (n:Nat):n<4294967296^(Xd n).length:=by
 have:=WW (Xo n)
 rwa[Xl]at this
theorem XM {m n:Nat}(h:m<=n):(Xd m).length<=(Xd n).length:=Vo (Z6 h (Te n))
theorem Uv (m n:Nat):(Xd (m*n)).length<=(Xd m).length+(Xd n).length:=
 Vo (by rw[Y2];exact Nat.mul_lt_mul'' (Te m) (Te n))
theorem Uw (m n:Nat):(Xd (m+n)).length<=(Xd m).length+(Xd n).length+1:=by
 have a:=Z2 (Te m) (Vj (Nat.le_add_right _ (Xd n).length));have b:=Z2 (Te n) (Vj (Nat.le_add_left _ (Xd m).length));exact Vo (by rw[ZK];omega)
theorem aZ (a:List Nat)(i:Nat):val (a.take (i+1))=val (a.take i)+a[i]?.getD 0*4294967296^i:=by
 cases h:a[i]? with
 |none=>
  have :a.length<=i:=List.getElem?_eq_none_iff.1 h;rw[Zd (by omega),Zd this];simp
 |some w=>rw[Vl h];rfl
def WL:List Nat->List Nat->Int
 |a::as1,b::bs=>if a<b then .negSucc 0 else if b<a then .ofNat 1 else WL as1 bs
 |_,_=>.ofNat 0
def Xg (m n:List Nat):List Nat:=List.zipWith (·+ ·) m n
theorem QE:∀m,WL m m=.ofNat 0
 |[]=>rfl
 |a::m=>by simp only[WL,Zx,if_false];exact QE m
theorem Su:∀{m n:List Nat},m.length=n.length->WL m n=.ofNat 0->m=n
 |[],[],_,_=>rfl
 |[],_::_,h,_=>by simp at h
 |_::_,[],h,_=>by simp at h
 |a::m,b::n,h,hc=>by
  simp only[WL]at hc;split at hc
  ·cases hc
  ·split at hc
   ·simp at hc
   ·rw[Su (by simpa using h) hc,show a=b by omega]
theorem Vz:∀(m n:List Nat),WL m n=.ofNat 1\/WL m n=.negSucc 0\/WL m n=.ofNat 0
 |[],[]=>.inr (.inr rfl)
 |[],_::_=>.inr (.inr rfl)
 |_::_,[]=>.inr (.inr rfl)
 |a::m,b::n=>by
  simp only[WL];split
  ·exact .inr (.inl rfl)
  ·split
   ·exact .inl rfl
   ·exact Vz m n
theorem rI {U V T W p q D:Nat}(C:0<p)(b:W*p<=V)(c:V<(W+1)*p)(f:T*p<=U)(g:U<(T+1)*p)(B:D*p<=V)(l:q<=D)(i:U<V*(D+1))
  (d:q*W<=T) (a:D<=q\/T<(q+1)*W):U / V<=q/\q<=U / V+1:=by
 have j:0<V:=by
  rcases Yh V with h|h
  ·subst h;omega
  ·exact h
 constructor
 ·rcases a with a|a
  ·have :U / V<D+1:=Yp i;omega
  ·have e:U<(q+1)*V:=by
    have m:(T+1)*p<=((q+1)*W)*p:=Zp p a;have n:((q+1)*W)*p=(q+1)*(W*p):=Yi ..;have o:(q+1)*(W*p)<=(q+1)*V:=Z9 _ b;omega
   have :U / V<q+1:=Yp (by rw[ZH];exact e);omega
 ·rcases Yj (U / V+1) q with h|h
  ·exfalso;have r:U<(U / V+1)*V:=by
    have:=Nat.lt_mul_div_succ U j;rw[ZH];exact this
   have s:(U / V+1)*V<=(q-1)*V:=Zp V (Nat.le_sub_one_of_lt h);have t:q*W*p<=T*p:=Zp p d;have u:q*V<=q*((W+1)*p):=Z9 q (Nat.le_of_lt c);have v:q*((W+1)*p)=q*W*p+q*p:=by rw[ZG,ZZ,Nat.mul_add,Yi]
   have w:q*p<=D*p:=Zp p l;have A:(q-1)*V+V=q*V:=by
    obtain⟨k,rfl⟩:∃k,q=k+1:=⟨q-1,(Nat.sub_add_cancel (Zy (Nat.succ_le_succ (Zt _)) h)).symm⟩;rw[Yl,ZG,ZZ]
   generalize q*W*p=x at *;generalize q*p=y at *;generalize q*V=z at *;generalize q*((W+1)*p)=x1 at *;generalize (U / V+1)*V=x2 at *;generalize (q-1)*V=x3 at *;generalize T*p=x4 at *;generalize D*p=x5 at *;omega
  ·exact h
theorem TE:∀(m n v:Nat),dg (m+n) v=dg m v++dg n (v / 4294967296^m)
 |0,n,v=>by simp[dg]
 |m+1,n,v=>by
  rw[show m+1+n=(m+n)+1 by omega];simp only[dg,ZI,TE m n,Nat.div_div_eq_div_mul,ZK];rw[ZH (4294967296^m)]
theorem lR:∀n,dg n 0=List.replicate n 0
 |0=>rfl
 |n+1=>by simp[dg,lR n,List.replicate_succ]
theorem rX:∀(n v:Nat),dg n (v%4294967296^n)=dg n v
 |0,_=>rfl
 |n+1,v=>by
  simp only[dg];have a:v%4294967296^(n+1)%4294967296=v%4294967296:=by
   rw[ZK,Nat.mod_mul_left_mod]
  have b:v%4294967296^(n+1) / 4294967296=(v / 4294967296)%4294967296^n:=by
   rw[ZK,ZH,Nat.mod_mul_right_div_self]
  rw[a,b,rX n]
theorem AN {m n v:Nat}(h:m<=n):(dg n v).take m=dg m v:=by
 obtain⟨k,rfl⟩:=Nat.exists_eq_add_of_le h;rw[TE,List.take_left' (X9 m v)]
theorem B5 {m n v:Nat}(h:m<=n):(dg n v).drop m=dg (n-m) (v / 4294967296^m):=by
 obtain⟨k,rfl⟩:=Nat.exists_eq_add_of_le h;rw[TE,List.drop_left' (X9 m v),Y7]
theorem bT {n v i:Nat}(h:i<n):(dg n v)[i]? =some (v / 4294967296^i%4294967296):=by
 have a:=B5 (m:=i) (n:=n) (v:=v) (by omega);obtain⟨k,b⟩:∃k,n-i=k+1:=⟨n-i-1,by omega⟩;rw[b,dg]at a;have:=congrArg (·[0]?) a;simpa using this
def qa (V n:Nat):Prop:=4294967296^n<=2*V/\V<4294967296^n
abbrev Qm:=Rat×List Nat
def WB:List Qm->List Qm->List Qm
 |[],us=>us
 |ts,[]=>ts
 |t::ts,u::us=>
  if WL t.2 u.2=.ofNat 1 then t::WB ts (u::us)
  else if WL t.2 u.2=.negSucc 0 then u::WB (t::ts) us
  else if t.1+u.1=0 then WB ts us else(t.1+u.1,t.2)::WB ts us
termination_by ts us=>ts.length+us.length
theorem Wd (a:List Qm):WB [] a=a:=by unfold WB;rfl
theorem WY (a:List Qm):WB a []=a:=by cases a<;>(unfold WB;rfl)
theorem Sw (t u:Qm)(a b:List Qm):WB (t::a) (u::b)=if WL t.2 u.2=.ofNat 1 then t::WB a (u::b)
  else if WL t.2 u.2=.negSucc 0 then u::WB (t::a) b
  else if t.1+u.1=0 then WB a b else(t.1+u.1,t.2)::WB a b:=by
 rw[WB]
def Wc:List Qm->(List Nat->Rat)->Rat
 |[],_=>0
 |t::ts,φ=>t.1*φ t.2+Wc ts φ
def Q8 (ts:List Qm):Prop:=∀t∈ts,t.2.length=8
theorem Q8.tail {t:Qm}{a:List Qm}(h:Q8 (t::a)):Q8 a:=fun x b=>h x (Zc _ b)
theorem Q8.head {t:Qm}{a:List Qm}(h:Q8 (t::a)):t.2.length=8:=h t (Ze ..)
theorem Sy (f:List Nat->Rat):∀(n:Nat) (c d:List Qm),c.length+d.length<=n->Q8 c->Q8 d->Wc (WB c d) f=Wc c f+Wc d f
 |_,[],d,_,_,_=>by rw[Wd];simp only[Wc];grind
 |_,t::c,[],_,_,_=>by rw[WY];simp only[Wc];grind
 |0,t::c,u::d,h,_,_=>by simp at h
 |n+1,t::c,u::d,h,h1,h2=>by
  simp only[Zi]at h;rw[Sw];split
  ·simp only[Wc,Sy f n c (u::d) (by simp;omega) h1.tail h2];grind
  ·split
   ·simp only[Wc,Sy f n (t::c) d (by simp;omega) h1 h2.tail];grind
   ·rename_i a b;have e:WL t.2 u.2=.ofNat 0:=by
     rcases Vz t.2 u.2 with q|q|q
     ·exact absurd q a
     ·exact absurd q b
     ·exact q
    have e2:=Su (by rw[h1.head,h2.head]) e;have g:=Sy f n c d (by omega) h1.tail h2.tail;split
    ·rename_i z;simp only[Wc,g];rw[<-e2];have :t.1*f t.2+u.1*f t.2=0:=by rw[<-Rat.add_mul,z,Rat.zero_mul]
     grind
    ·simp only[Wc,g];rw[<-e2,Rat.add_mul];grind
def XS (z:Rat)(m:List Nat)(ts:List Qm):List Qm:=ts.map fun t=>(z*t.1,Xg m t.2)
def Uc (z:Rat)(ts:List Qm):List Qm:=ts.map fun t=>(z*t.1,t.2)
def U3 (ts:List Qm):List Qm:=Uc (-1) ts
theorem Ro (z:Rat)(m:List Nat)(b:List Nat->Rat):∀a,Wc (XS z m a) b=z*Wc a fun k=>b (Xg m k)
 |[]=>by simp[XS,Wc]
 |t::a=>by
  have c:=Ro z m b a;unfold XS at c;simp only[XS,Zr,Wc,c]
  grind
theorem ji (z:Rat)(b:List Nat->Rat):∀a,Wc (Uc z a) b=z*Wc a b
 |[]=>by simp[Uc,Wc]
 |t::a=>by
  have c:=ji z b a;unfold Uc at c;simp only[Uc,Zr,Wc,c]
  grind
theorem dT (b:List Nat->Rat)(a:List Qm):Wc (U3 a) b= -Wc a b:=by
 unfold U3;rw[ji];grind
def Ry (acc:List Qm):List Qm->List Qm->List Qm
 |[],_=>acc
 |t::ts,us=>Ry (WB acc (XS t.1 t.2 us)) ts us
theorem U2 {b ψ:List Nat->Rat}:∀{a:List Qm},(∀t∈a,b t.2=ψ t.2)->Wc a b=Wc a ψ
 |[],_=>rfl
 |t::a,h=>by
  simp only[Wc];rw[h t (by simp),U2 fun x c=>h x (Zc _ c)]
theorem tt (b c:List Nat->Rat):∀a,(Wc a fun m=>b m+c m)=Wc a b+Wc a c
 |[]=>by simp only[Wc];grind
 |t::a=>by simp only[Wc,tt b c a];grind
theorem fq (z:Rat)(b:List Nat->Rat):∀a,(Wc a fun m=>z*b m)=z*Wc a b
 |[]=>by simp[Wc]
 |t::a=>by simp only[Wc,fq z b a];grind
theorem N8:∀a,(Wc a fun _=>0)=0
 |[]=>rfl
 |t::a=>by simp only[Wc,N8 a];grind
theorem nG (c:List Nat->List Nat->Rat):∀(b a:List Qm),(Wc b fun m=>Wc a fun k=>c m k)=Wc a fun k=>Wc b fun m=>c m k
 |[],a=>by simp only[Wc,N8]
 |t::b,a=>by
  simp only[Wc,nG c b a];rw[<-fq,<-tt]
structure Pv (ts:List Qm):Prop where
 nz:∀t∈ts,t.1≠0
 pw:ts.Pairwise fun t u=>WL t.2 u.2=.ofNat 1
theorem Pv.tail {t:Qm}{a:List Qm}(h:Pv (t::a)):Pv a:=⟨fun x b=>h.nz x (Zc _ b),(Zv.1 h.pw).2⟩
theorem Pv.nil:Pv []:=⟨(fun _ h=>by cases h),.nil⟩
theorem Pv.cons {t:Qm}{b:List Qm}(h0:t.1≠0)(h:Pv b)(c:∀u∈b,WL t.2 u.2=.ofNat 1):Pv (t::b):=
 ⟨fun x a=>by rcases Zj.1 a with rfl|a;exact h0;exact h.nz x a,Zv.2 ⟨c,h.pw⟩⟩
def S0 (ts:List Qm)(m:List Nat):Rat:=Wc ts fun k=>if k=m then 1 else 0
theorem aI (m:List Nat):S0 [] m=0:=rfl
theorem QB (t:Qm)(a:List Qm)(m:List Nat):S0 (t::a) m=(if t.2=m then t.1 else 0)+S0 a m:=by
 unfold S0;simp only[Wc];split<;>grind
theorem Oc {a:List Qm}{m:List Nat}(h:∀t∈a,t.2≠m):S0 a m=0:=by
 unfold S0;rw[U2 (ψ:=fun _=>0) fun t b=>if_neg (h t b),N8]
theorem lX {m n:List Nat}(h:WL m n=.ofNat 1):m≠n:=by
 intro e;subst e;rw[QE]at h;simp at h
theorem Pv.Up:∀{a:List Qm},Pv a->∀t∈a,S0 a t.2=t.1
 |u::a,h,t,ht=>by
  rw[QB];rcases Zj.1 ht with rfl|ht
  ·rw[if_pos rfl,Oc fun x b e=>lX ((Zv.1 h.pw).1 x b) e.symm];grind
  ·rw[if_neg (lX ((Zv.1 h.pw).1 t ht)),h.tail.Up t ht];grind
theorem Pv.mem_iff {b:List Qm}(h:Pv b)(m:List Nat):S0 b m≠0↔∃t∈b,t.2=m:=by
 constructor
 ·intro c;by_cases e:∃t∈b,t.2=m
  ·exact e
  ·exact absurd (Oc fun t a d=>e ⟨t,a,d⟩) c
 ·rintro ⟨t,a,rfl⟩;rw[h.Up t a];exact h.nz t a
theorem gJ:∀{m n:List Nat},WL m n=.ofNat 1->WL n m=.negSucc 0
 |[],[],h=>by simp[WL]at h
 |[],_::_,h=>by simp[WL]at h
 |_::_,[],h=>by simp[WL]at h
 |a::m,b::n,h=>by
  simp only[WL]at h⊢;split at h
  ·cases h
  ·split at h
   ·rename_i d c;rw[if_pos c]
   ·rename_i d c;rw[if_neg c,if_neg d];exact gJ h
theorem Pv.ext:∀{a b:List Qm},Pv a->Pv b->(∀m,S0 a m=S0 b m)->a=b
 |[],[],_,_,_=>rfl
 |[],u::b,_,h2,h=>by
  have:=h2.Up u (Ze ..);rw[<-h,aI]at this;exact absurd this.symm (h2.nz u (Ze ..))
 |t::a,[],h1,_,h=>by
  have:=h1.Up t (Ze ..);rw[h,aI]at this;exact absurd this.symm (h1.nz t (Ze ..))
 |t::a,u::b,h1,h2,h=>by
  obtain⟨x,e,j⟩:=(h2.mem_iff t.2).1 (by rw[<-h,h1.Up t (Ze ..)];exact h1.nz t (Ze ..));obtain⟨y,f,k⟩:=(h1.mem_iff u.2).1 (by rw[h,h2.Up u (Ze ..)];exact h2.nz u (Ze ..));have i:t.2=u.2:=by
   rcases Zj.1 e with rfl|e
   ·exact j.symm
   ·rcases Zj.1 f with rfl|f
    ·exact k
    ·exfalso;have g:=(Zv.1 h2.pw).1 x e;have c:=(Zv.1 h1.pw).1 y f;rw[j]at g;rw[k]at c;rw[gJ g]at c;cases c
  have l:t.1=u.1:=by rw[<-h1.Up t (Ze ..),<-h2.Up u (Ze ..),h,i]
  have d:t=u:=Prod.ext l i;subst d;rw[Pv.ext h1.tail h2.tail fun m=>by
   have:=h m;rw[QB,QB]at this;exact Rat.add_left_cancel _ this]
theorem To {a b:Rat}(c:a≠0)(d:b≠0):a*b≠0:=fun h=>(Rat.mul_eq_zero.1 h).elim c d
theorem jS:∀(m n:List Nat),WL n m=.negSucc 0↔WL m n=.ofNat 1
 |[],[]=>by simp[WL]
 |[],_::_=>by simp[WL]
 |_::_,[]=>by simp[WL]
 |a::m,b::n=>by
  simp only[WL];by_cases d:b<a
  ·have c:¬a<b:=by omega
   simp[d,c]
  ·by_cases c:a<b
   ·simp[d,c]
   ·simp only[d,c,if_false];exact jS m n
theorem Nv:∀{l m n:List Nat},l.length=m.length->m.length=n.length->WL l m=.ofNat 1->WL m n=.ofNat 1->WL l n=.ofNat 1
 |[],_,_,_,_,h,_=>by simp[WL]at h
 |_::_,[],_,h,_,_,_=>by simp at h
 |_::_,_::_,[],_,h,_,_=>by simp at h
 |a::l,b::m,c::n,h1,h2,h3,h4=>by
  simp only[WL]at h3 h4⊢;by_cases d:a<b
  ·simp[d]at h3
  ·by_cases e:b<c
   ·simp[e]at h4
   ·by_cases f:b<a
    ·have :c<a:=by omega
     have :¬a<c:=by omega
     simp[*]
    ·by_cases g:c<b
     ·have :c<a:=by omega
      have :¬a<c:=by omega
      simp[*]
     ·simp only[d,f,if_false]at h3;simp only[e,g,if_false]at h4;have :¬a<c:=by omega
      have :¬c<a:=by omega
      simp only[*,if_false];exact Nv (by simpa using h1) (by simpa using h2) h3 h4
theorem Um:∀(n:Nat) {b c:List Qm} {x:Qm},b.length+c.length<=n->Q8 b->Q8 c->x∈WB b c->(∃t∈b,t.2=x.2)\/∃u∈c,u.2=x.2
 |_,[],c,x,_,_,_,h=>by rw[Wd]at h;exact .inr ⟨x,h,rfl⟩
 |_,t::b,[],x,_,_,_,h=>by rw[WY]at h;exact .inl ⟨x,h,rfl⟩
 |0,_::_,_::_,_,h,_,_,_=>by simp at h
 |n+1,t::b,u::c,x,hn,h1,h2,h=>by
  have f:Q8 b:=fun x d=>h1 x (Zc _ d)
  have g:Q8 c:=fun x d=>h2 x (Zc _ d)
  simp only[Zi]at hn;rw[Sw]at h;split at h
  ·rcases Zj.1 h with rfl|h
   ·exact .inl ⟨_,Ze ..,rfl⟩
   ·rcases Um n (by simp;omega) f h2 h with⟨y,a,e⟩|⟨y,a,e⟩
    ·exact .inl ⟨y,Zc _ a,e⟩
    ·exact .inr ⟨y,a,e⟩
  ·split at h
   ·rcases Zj.1 h with rfl|h
    ·exact .inr ⟨_,Ze ..,rfl⟩
    ·rcases Um n (by simp;omega) h1 g h with⟨y,a,e⟩|⟨y,a,e⟩
     ·exact .inl ⟨y,a,e⟩
     ·exact .inr ⟨y,Zc _ a,e⟩
   ·have key:x∈WB b c->(∃y∈t::b,y.2=x.2)\/∃y∈u::c,y.2=x.2:=by
     intro h;rcases Um n (by omega) f g h with⟨y,a,e⟩|⟨y,a,e⟩
     ·exact .inl ⟨y,Zc _ a,e⟩
     ·exact .inr ⟨y,Zc _ a,e⟩
    split at h
    ·exact key h
    ·rcases Zj.1 h with rfl|h
     ·exact .inl ⟨t,Ze ..,rfl⟩
     ·exact key h
theorem dQ {d f:List Qm}(b:Q8 d)(c:Q8 f):Q8 (WB d f):=by
 intro x g;rcases Um _ (Zh _) b c g with⟨y,a,e⟩|⟨y,a,e⟩
 ·rw[<-e];exact b y a
 ·rw[<-e];exact c y a
theorem aD:∀(n:Nat) {g i:List Qm},g.length+i.length<=n->Q8 g->Q8 i->Pv g->Pv i->Pv (WB g i)
 |_,[],i,_,_,_,_,h=>by rw[Wd];exact h
 |_,t::g,[],_,_,_,h,_=>by rw[WY];exact h
 |0,_::_,_::_,h,_,_,_,_=>by simp at h
 |n+1,t::g,u::i,hn,h1,h2,d1,d2=>by
  have j:Q8 g:=fun x f=>h1 x (Zc _ f)
  have k:Q8 i:=fun x f=>h2 x (Zc _ f)
  have p:=h1 t (Ze ..);have r:=h2 u (Ze ..);have l:=(Zv.1 d1.pw).1;have m:=(Zv.1 d2.pw).1;simp only[Zi]at hn;rw[Sw];split
  ·rename_i e;refine Pv.cons (d1.nz t (Ze ..)) (aD n (by simp;omega) j h2 d1.tail d2) fun x f=> ?_
   rcases Um _ (Zh _) j h2 f with⟨y,c,d⟩|⟨y,c,d⟩
   ·rw[<-d];exact l y c
   ·rw[<-d];rcases Zj.1 c with rfl|c
    ·exact e
    ·exact Nv (by omega) (by rw[r,k y c]) e (m y c)
  ·split
   ·rename_i e;have e:=(jS u.2 t.2).1 e;refine Pv.cons (d2.nz u (Ze ..)) (aD n (by simp;omega) h1 k d1 d2.tail) fun x f=> ?_
    rcases Um _ (Zh _) h1 k f with⟨y,c,d⟩|⟨y,c,d⟩
    ·rw[<-d];rcases Zj.1 c with rfl|c
     ·exact e
     ·exact Nv (by omega) (by rw[p,j y c]) e (l y c)
    ·rw[<-d];exact m y c
   ·rename_i a b;have e:WL t.2 u.2=.ofNat 0:=by
     rcases Vz t.2 u.2 with q|q|q
     ·exact absurd q a
     ·exact absurd q b
     ·exact q
    have e2:=Su (by omega) e;have o:=aD n (by omega) j k d1.tail d2.tail;split
    ·exact o
    ·rename_i z;refine Pv.cons z o fun x f=> ?_
     rcases Um _ (Zh _) j k f with⟨y,c,d⟩|⟨y,c,d⟩
     ·rw[<-d];exact l y c
     ·rw[<-d];simp only[];rw[e2];exact m y c
theorem wT {m n:List Nat}(a:m.length=8)(b:n.length=8):(Xg m n).length=8:=by simp[Xg,a,b]
theorem Ny:∀(m a b:List Nat),m.length=a.length->a.length=b.length->WL (Xg m a) (Xg m b)=WL a b
 |[],[],[],_,_=>rfl
 |[],_::_,_,h,_=>by simp at h
 |_::_,[],_,h,_=>by simp at h
 |_,[],_::_,_,h=>by simp at h
 |_,_::_,[],_,h=>by simp at h
 |x::m,y::a,z::b,h1,h2=>by
  have c:=Ny m a b (by simpa using h1) (by simpa using h2);unfold Xg at c⊢;simp only[Zw,WL];by_cases d:y<z
  ·rw[if_pos d,if_pos (by omega)]
  ·rw[if_neg d,if_neg (by omega)];by_cases e:z<y
   ·rw[if_pos e,if_pos (by omega)]
   ·rw[if_neg e,if_neg (by omega)];exact c
theorem Sg {z:Rat}{m:List Nat}(c:m.length=8){b:List Qm}(h:Q8 b):Q8 (XS z m b):=by
 intro x a;simp only[XS,ZQ]at a;obtain⟨t,d,rfl⟩:=a;exact wT c (h t d)
theorem cr {z:Rat}(d:z≠0){m:List Nat}(f:m.length=8):∀{a:List Qm},Q8 a->Pv a->Pv (XS z m a)
 |[],_,_=>Pv.nil
 |t::a,hw,h=>by
  have e:Q8 a:=fun x b=>hw x (Zc _ b)
  have g:=cr d f e h.tail;refine Pv.cons (t:=(z*t.1,Xg m t.2)) (To d (h.nz t (Ze ..))) g fun x b=> ?_
  simp only[ZQ]at b;obtain⟨u,c,rfl⟩:=b;have i:=hw t (Ze ..);have j:=e u c;simp only[];rw[Ny m t.2 u.2 (by omega) (by omega)];exact(Zv.1 h.pw).1 u c
theorem uq:∀{b c a:List Qm},Q8 b->Q8 c->Q8 a->(∀t∈b,t.1≠0)->Pv c->Pv a->Pv (Ry a b c)
 |[],_,_,_,_,_,_,_,h=>h
 |t::b,c,a,h1,h2,h3,h4,h5,h6=>by
  simp only[Ry];have l:=h1 t (Ze ..);exact uq (fun x d=>h1 x (Zc _ d)) h2 (dQ h3 (Sg l h2)) (fun x d=>h4 x (Zc _ d)) h5 (aD _ (Zh _) h3 (Sg l h2) h6 (cr (h4 t (Ze ..)) l h2 h5))
theorem nH (c:List Nat->Rat):∀{d b a:List Qm},Q8 d->Q8 b->Q8 a->Wc (Ry a d b) c=Wc a c+Wc d fun m=>Wc b fun k=>c (Xg m k)
 |[],b,a,_,_,_=>by simp only[Ry,Wc];grind
 |t::d,b,a,h1,h2,h3=>by
  have l:=h1 t (Ze ..);simp only[Ry];rw[nH c (fun x e=>h1 x (Zc _ e)) h2 (dQ h3 (Sg l h2)),Sy c _ _ _ (Zh _) h3 (Sg l h2),Ro];simp only[Wc];grind
theorem RL:∀(n:Nat) (a b:List Qm),a.length+b.length<=n->(WB a b).length<=a.length+b.length
 |_,[],b,_=>by rw[Wd];simp
 |_,t::a,[],_=>by rw[WY];simp
 |0,t::a,u::b,h=>by simp at h
 |n+1,t::a,u::b,h=>by
  simp only[Zi]at h;have c:=RL n a (u::b) (by simp;omega);have d:=RL n (t::a) b (by simp;omega);have e:=RL n a b (by omega);simp only[Zi]at c d;rw[Sw];split
  ·simp only[Zi];omega
  ·split
   ·simp only[Zi];omega
   ·split
    ·simp only[Zi];omega
    ·simp only[Zi];omega
end Go.Num
