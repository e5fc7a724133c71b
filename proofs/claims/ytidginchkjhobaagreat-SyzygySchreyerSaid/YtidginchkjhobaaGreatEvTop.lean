/- The interpreter over a table of functions is sound, at every depth. -/
import Derived.Test.YtidginchkjhobaaGreatEvDraw
namespace Go.Ev
open Go.RowKit
theorem E9 {P:Program}(e:P.follows .mixedOrders=true)(X:Nat->Option Vl)(k:∀f b,X f=some b->PB P f b)(K:Nat)(E:Xa)(hE:Ww P E):Ww P (lift X K E):=by
 have j:=xK hE e;refine⟨fun f l r h=> ?_,fun f args H d i h=> ?_,fun f c g h=>hE.iter f c g h⟩
 ·simp only[lift]at h;cases a:X f with
  |none=>rw[a]at h;exact hE.pure f l r h
  |some b=>rw[a]at h;exact BN E hE j K (k f b a) l r h
 ·simp only[lift]at h;cases a:X f with
  |none=>rw[a]at h;exact hE.heap f args H d i h
  |some b=>rw[a]at h;exact Cv E hE j K (k f b a) args H d i h
theorem xD {P:Program}(a:P.follows .mixedOrders=true)(X:Nat->Option Vl)(b:∀f c,X f=some c->PB P f c)(K:Nat)(E0:Xa)(hE:Ww P E0):∀n,Ww P (ev E0 X K n)
 |0=>hE
 |n+1=>E9 a X b K _ (xD a X b K E0 hE n)
def Ku (md:Nat->Mode):Xa:=⟨md,fun _ _=>none,fun _ _ _=>none,fun _ _=>none⟩
theorem IA {P:Program}(md:Nat->Mode):Ww P (Ku md):=
 ⟨(fun _ _ _ h=>by cases h),(fun _ _ _ _ _ h=>by cases h),(fun _ _ _ h=>by cases h)⟩
structure Ni (E E':Xa):Prop where
 mode:E'.mode=E.mode
 pure:∀f a r,E.pure f a=some r->E'.pure f a=some r
 heap:∀f a H r,E.heap f a H=some r->E'.heap f a H=some r
 iter:E'.iter=E.iter
section
variable {E E':Xa}
theorem mQ (hE:Ni E E'){h:HF}{f:Nat}{c:X'}{r:Va}(a:WI E h f c=some r):WI E' h f c=some r:=by
 unfold WI at a⊢;cases i:TV c with
 |none=>
  simp only[i]at a⊢;cases e:c.all SP with
  |false=>simp[e]at a
  |true=>
   cases d:E.heap f c []with
   |none=>simp[d]at a
   |some q=>rw[hE.heap f c [] q d];grind
 |some q=>
  obtain⟨id,XM,j⟩:=q;simp only[i]at a⊢;cases e:RO c with
  |false=>simp[e]at a
  |true=>
   cases g:h id with
   |none=>simp[g]at a
   |some b=>
    simp only[g]at a⊢;cases k:(Nat.beq b.XM XM&& !b.mp&& !b.fz&&b.ch.all Wc)with
    |false=>grind
    |true=>
     rw[cond_true];cases d:E.heap f (RD c) [b]with
     |none=>simp[d]at a
     |some q=>rw[hE.heap f _ _ q d];grind
theorem mR (hE:Ni E E'){h:HF}{f:Nat}{c:X'}{r:Va}(a:VB E h f c=some r):VB E' h f c=some r:=by
 unfold VB at a⊢;rw[hE.mode];cases d:E.mode f with
 |heap=>simp[d]at a
 |view=>grind [mQ]
 |fresh=>grind [mQ]
 |pure=>
 simp only[d]at a⊢;cases e:Xv (XT h) c with
 |none=>simp[e]at a
 |some g=>
 simp only[e]at a⊢;cases b:E.pure f g with
 |none=>simp[b]at a
 |some q=>
 simp only[b]at a;simp only[hE.pure f g q b];exact a
theorem FE (hE:Ni E E'){b:Nat}{c:cH}{d:X'}{h:HF}{n:Nat}{r:Va}(a:We E b c d h n=some r):We E' b c d h n=some r:=by
 cases c with
 |call f=>exact mR hE a
 |Sd=>
  simp only[We,Rc]at a⊢
  grind [mR]
 |_=>exact a
theorem jj (hE:Ni E E')(f:Nat):Ts E' f=Ts E f:=by
 unfold Ts;rw[hE.mode]
theorem vf (hE:Ni E E')(f:Nat):NH E' f=NH E f:=by
 unfold NH;rw[hE.mode]
theorem kM (hE:Ni E E')(a:cH):Xl E' a=Xl E a:=by
 unfold Xl
 grind [jj]
theorem sa (hE:Ni E E')(a:cH)(b:X'):XL E' a b=XL E a b:=by
 unfold XL
 grind [vf,jj]
theorem zW (hE:Ni E E'){f:Nat}{a:X'}{H:V'}{q:DV×V'}(h:TX E f a H=some q):TX E' f a H=some q:=by
 unfold TX at h⊢;cases g:TV a with
 |none=>
  simp only[g]at h⊢;cases d:a.all SP with
  |false=>simp[d]at h
  |true=>
   cases c:E.heap f a []with
   |none=>simp[c]at h
   |some r=>rw[hE.heap f a [] r c];grind
 |some q=>
  obtain⟨id,XM,j⟩:=q;simp only[g]at h⊢;cases d:RO a with
  |false=>simp[d]at h
  |true=>
   cases e:H[id]? with
   |none=>simp[e]at h
   |some b=>
    simp only[e]at h⊢;cases i:(Nat.beq b.XM XM&& !b.mp&& !b.fz&&b.ch.all Wc)with
    |false=>rw[i]at h;simp at h
    |true=>
     rw[cond_true];cases c:E.heap f (RD a) [b]with
     |none=>simp[c]at h
     |some r=>rw[hE.heap f _ _ r c];grind
theorem kO (hE:Ni E E'){b:Option Nat}{f:Nat}{c:X'}{s:St}{r:St×P'×P'}(a:Vq E b f c s=some r):Vq E' b f c s=some r:=by
 unfold Vq at a⊢;rw[hE.mode];cases e:E.mode f with
 |pure=>simp[e]at a
 |view=>simp[e]at a
 |fresh=>
  grind [zW]
 |heap=>
 simp only[e]at a⊢;cases d:E.heap f c s.H with
 |none=>simp[d]at a
 |some q=>
 simp only[d]at a;simp only[hE.heap f c s.H q d];exact a
theorem mT (hE:Ni E E'){b:Nat}{c:Bool}{o:Xy}{s:St}{r:St×P'×P'}(a:Vp E b c o s=some r):Vp E' b c o s=some r:=by
 unfold Vp at a⊢;cases d:UW s.T o.guard with
 |none=>simp[d]at a
 |some g=>
 cases g with
 |false=>grind
 |true=>
 simp only[d]at a⊢;cases e:Xv (Vs.eval s.T) o.args with
 |none=>simp[e]at a
 |some f=>
 simp only[e,sa hE]at a⊢;cases h:(c&&XL E o.op f)with
 |true=>
  unfold Pq at a⊢
  grind [kO]
 |false=>
  grind [FE]
theorem jH (hE:Ni E E'){b:Nat}:∀{os:F'} {s c:St},UY E b os s=some c->UY E' b os s=some c
 |[],_,_,h=>h
 |o::os,s,c,h=>by
  simp only[UY]at h⊢;cases a:Vp E b true o s with
  |none=>simp[a]at h
  |some q=>
  obtain⟨s1,rd,wr⟩:=q;simp only[a]at h;simp only[mT hE a];exact jH hE h
theorem mS (hE:Ni E E'){b:Nat}:∀{os:F'} {i:Nat} {s:St} {r:St×List QA},Tg E b i os s=some r->Tg E' b i os s=some r
 |[],_,_,_,h=>h
 |o::os,i,s,r,h=>by
  simp only[Tg,kM hE]at h⊢;cases d:(Xl E o.op&& !(os.isEmpty&&SF o.after i))with
  |true=>rw[d]at h;simp at h
  |false=>
  simp only[d,cond_false]at h⊢;cases c:Vp E b (Xl E o.op) o s with
  |none=>simp[c]at h
  |some q=>
  obtain⟨s1,rd,wr⟩:=q;simp only[c]at h;simp only[mT hE c];cases a:Tg E b (i+1) os s1 with
  |none=>simp[a]at h
  |some e=>
  simp only[a]at h;simp only[mS hE a];exact h
theorem mU (hE:Ni E E'){b:Nat}{os:F'}{s a:St}(h:TB E b os s=some a):TB E' b os s=some a:=by grind [TB,mS]
theorem rP {f g:St->Option (Ex×St)}(a:∀s r,f s=some r->g s=some r):∀(N b:Nat),N<=b->∀(s:St) (r:Ex×St),OO f N s=some r->OO g b s=some r
 |0,_,_,_,_,h=>by simp[OO]at h
 |N+1,0,hN,_,_,_=>by omega
 |N+1,b+1,hN,s,r,h=>by
  simp only[OO]at h⊢;cases c:f s with
  |none=>simp[c]at h
  |some q=>
  rw[a s q c];rw[c]at h;obtain⟨e,s1⟩:=q;cases e with
  |normal=>exact rP a N b (by omega) s1 r h
  |exit j=>exact h
  |ret=>exact h
theorem ie {f g:St->Option (Ex×St)}(b:∀s r,f s=some r->g s=some r)(T:List (Nat×DV))(a:P'):∀(c:List (List PV)) (H:V') (r:Ex×St),Tp T f a c H=some r->Tp T g a c H=some r
 |[],_,_,h=>h
 |xs::rest,H,r,h=>by
  simp only[Tp]at h⊢;cases i:Q7 a xs T with
  |none=>simp[i]at h
  |some k=>
  simp only[i]at h⊢;cases d:f ⟨k,H⟩with
  |none=>simp[d]at h
  |some q=>
  rw[b _ q d];rw[d]at h;obtain⟨e,s1⟩:=q;cases e with
  |normal=>exact ie b T a rest s1.H r h
  |exit j=>exact h
  |ret=>exact h
theorem Ad (hE:Ni E E'){K m b:Nat}(x:K<=m):∀(c:XH) (s:St) (r:Ex×St),XI E K b c s=some r->XI E' m b c s=some r:=by
 intro c;induction c with
 |skip=>intro s r h;exact h
 |region d os=>
  intro s r h;cases d with
  |false=>
   grind [XI,jH]
  |true=>
   grind [XI,mU]
 |RP l v=>
  grind [XI,P3,mU,jH]
 |seq a c e k=>
  grind [XI]
 |cond q a c e k=>
  grind [XI]
 |block j a e=>
  grind [XI]
 |loop a e=>
  grind [XI,rP]
 |VM z a e=>
  grind [XI,Qn]
 |scope a e=>intro s r h;exact e s r h
 |exit j=>intro s r h;exact h
 |ret=>intro s r h;exact h
 |Og f o l body u t=>
  intro s r h;simp only[XI]at h⊢;split at h
  ·rename_i p g y;simp only[hE.iter];cases n:E.iter p g with
   |none=>simp[n]at h
   |some w=>
   simp only[n]at h⊢;obtain⟨i,h⟩:=Wg h;rw[i,cond_true]
   grind [ie,Sn]
  ·simp at h
theorem mW (hE:Ni E E'){K c:Nat}(d:K<=c){b:Vl}{args:X'}{H:V'}{r:X'×St}(h:Qu E K b args H=some r):Qu E' c b args H=some r:=by
 unfold Qu at h⊢;rw[Nb]at h⊢;cases a:Nat.ble args.length b.ntmps with
 |false=>rw[a]at h;simp at h
 |true=>
 grind [Ad]
theorem wY (hE:Ni E E')(X:Nat->Option Vl){K c:Nat}(e:K<=c):Ni (lift X K E) (lift X c E'):=by
 refine⟨hE.mode,fun f a r h=> ?_,fun f a H r h=> ?_,hE.iter⟩
 ·simp only[lift]at h⊢;cases b:X f with
  |none=>rw[b]at h;exact hE.pure f a r h
  |some d=>
   simp only[UX]at h⊢
   grind [mW]
 ·simp only[lift]at h⊢;cases b:X f with
  |none=>rw[b]at h;exact hE.heap f a H r h
  |some d=>
   grind [VD,mW]
end
theorem Ni.refl (E:Xa):Ni E E:=⟨rfl,fun _ _ _ h=>h,fun _ _ _ _ h=>h,rfl⟩
theorem Ni.trans {b c d:Xa}(h:Ni b c)(k:Ni c d):Ni b d:=
 ⟨k.mode.trans h.mode,fun f a r e=>k.pure f a r (h.pure f a r e),fun f a H r e=>k.heap f a H r (h.heap f a H r e),k.iter.trans h.iter⟩
theorem JL (E0:Xa)(X:Nat->Option Vl)(h0:∀K,Ni E0 (lift X K E0)){K a:Nat}(c:K<=a):∀{n m:Nat},n<=m->Ni (ev E0 X K n) (ev E0 X a m):=by
 have f:∀n,Ni (ev E0 X K n) (ev E0 X a n):=by
  intro n;induction n with
  |zero=>exact Ni.refl _
  |succ n b=>exact wY b X c
 have step:∀n,Ni (ev E0 X a n) (ev E0 X a (n+1)):=by
  intro n;induction n with
  |zero=>exact h0 a
  |succ n b=>exact wY b X (Ze _)
 intro n m d;refine(f n).trans ?_;induction m with
 |zero=>grind [Ni.refl]
 |succ m b=>
  by_cases e:n=m+1
  ·grind [Ni.refl]
  ·exact(b (by omega)).trans (step m)
end Go.Ev
namespace Go.Ev
theorem Py {a b:Nat}(h:a<=b):Nat.ble a b=true:=by rw[Nat.ble_eq];exact h
theorem Gw {a b:Nat}(h:b<a):Nat.ble a b=false:=by
 cases c:Nat.ble a b with
 |false=>rfl
 |true=>have:=W7 c;omega
theorem N6 {a b:Nat}(h:a<b):Nat.blt a b=true:=by rw[Nat.blt_eq];exact h
theorem JS {a b:Nat}(h:b<=a):Nat.blt a b=false:=by
 cases c:Nat.blt a b with
 |false=>rfl
 |true=>have:=Qy c;omega
theorem xQ {a b:Nat}(h:a=b):Nat.beq a b=true:=by subst h;exact YA a
theorem JT {a b:Nat}(h:a≠b):Nat.beq a b=false:=by
 cases c:Nat.beq a b with
 |false=>rfl
 |true=>exact absurd (Zl c) h
section
variable {E:Xa}{K b n i:Nat}{o:Xy}{os:F'}{s s1 s2:St}{rd wr:P'}{T:List (Nat×DV)}{H:V'}{h:HF}
def NT:List QA->Prop
 |[]=>True
 |f::fs=>(f.wr=[]/\f.lo=f.hi)/\NT fs
theorem Fz {b:List QA}(i:NT b):RZ b=true:=by
 have c:∀(a:List QA),NT a->a.all (fun f=>(f.wr.isEmpty&&Nat.beq f.lo f.hi)||b.all fun g=>OV f g)=true:=by
  intro a;induction a with
  |nil=>intro _;rfl
  |cons f a j=>
   intro⟨⟨d,e⟩,h⟩;simp only[List.all_cons,d,e,List.isEmpty_nil,YA,Bool.true_and,Bool.true_or];exact j h
 exact c b i
theorem qa {x:Nat}(c:x<9223372036854775808):Xe .i64 (Int.ofNat x)=Int.ofNat x:=by
 have a:x%18446744073709551616=x:=Zh (by omega);have b:Nat.ble 9223372036854775808 x=false:=Gw c;simp only[Xe,WR,Ql,a,UU,ox,Bool.true_and];rw[show(18446744073709551616 / 2:Nat)=9223372036854775808 from rfl,b];rfl
end
end Go.Ev
