/- The interpreter over a table of functions is sound, at every depth. -/
import Derived.Test.YtidginchkjhobaaGreatEvDraw
namespace Go.Ev
open Go.RowKit
theorem BG {P:Program}(g:P.follows .mixedOrders=true)(X:Nat->Option Vb)(l:∀f c,X f=some c->QK P f c)(K:Nat)(E:Xa)(b:Wq P E):Wq P (lift X K E):=by
 have k:=uk b g;refine⟨fun f m r h=> ?_,fun f args H d j h=> ?_,fun f e i h=>b.iter f e i h⟩
 ·simp only[lift]at h;cases a:X f with
  |none=>rw[a]at h;exact b.pure f m r h
  |some c=>rw[a]at h;exact yu E b k K (l f c a) m r h
 ·simp only[lift]at h;cases a:X f with
  |none=>rw[a]at h;exact b.heap f args H d j h
  |some c=>rw[a]at h;exact zm E b k K (l f c a) args H d j h
theorem ue {P:Program}(a:P.follows .mixedOrders=true)(X:Nat->Option Vb)(c:∀f d,X f=some d->QK P f d)(K:Nat)(E0:Xa)(b:Wq P E0):∀n,Wq P (ev E0 X K n)
 |0=>b
 |n+1=>BG a X c K _ (ue a X c K E0 b n)
def FF (md:Nat->Mode):Xa:=⟨md,fun _ _=>none,fun _ _ _=>none,fun _ _=>none⟩
theorem Ec {P:Program}(md:Nat->Mode):Wq P (FF md):=
 ⟨(fun _ _ _ h=>by cases h),(fun _ _ _ _ _ h=>by cases h),(fun _ _ _ h=>by cases h)⟩
structure O6 (E E':Xa):Prop where
 mode:E'.mode=E.mode
 pure:∀f a r,E.pure f a=some r->E'.pure f a=some r
 heap:∀f a H r,E.heap f a H=some r->E'.heap f a H=some r
 iter:E'.iter=E.iter
section
variable {E E':Xa}
theorem bX (d:O6 E E'){h:HF}{f:Nat}{c:List DV}{r:Vc}(a:Vk E h f c=some r):Vk E' h f c=some r:=by
 unfold Vk at a⊢;rw[d.mode];cases e:E.mode f with
 |heap=>simp[e]at a
 |pure=>
 simp only[e]at a⊢;cases g:Xt (XY h) c with
 |none=>simp[g]at a
 |some i=>
 simp only[g]at a⊢;cases b:E.pure f i with
 |none=>simp[b]at a
 |some q=>
 simp only[b]at a;simp only[d.pure f i q b];exact a
theorem BY (c:O6 E E'){b:Nat}{d:aT}{e:List DV}{h:HF}{n:Nat}{r:Vc}(a:X8 E b d e h n=some r):X8 E' b d e h n=some r:=by
 cases d with
 |call f=>exact bX c a
 |TF=>
  simp only[X8,SA]at a⊢;split at a
  ·exact bX c a
  ·exact bX c a
  ·simp at a
 |_=>exact a
theorem Q5 (a:O6 E E')(f:Nat):Ue E' f=Ue E f:=by
 unfold Ue;rw[a.mode]
theorem iD (b:O6 E E')(a:aT):Xk E' a=Xk E a:=by
 unfold Xk;split
 ·exact Q5 b _
 ·rfl
theorem oH (a:O6 E E')(b:aT)(c:List DV):XK E' b c=XK E b c:=by
 unfold XK;split
 ·exact Q5 a _
 ·split
  ·exact Q5 a _
  ·exact Q5 a _
  ·rfl
 ·rfl
theorem Qa (e:O6 E E'){b:Option Nat}{f:Nat}{c:List DV}{s:St}{r:St×List Nat×List Nat}(a:W7 E b f c s=some r):W7 E' b f c s=some r:=by
 unfold W7 at a⊢;rw[e.mode];cases g:E.mode f with
 |pure=>simp[g]at a
 |heap=>
 simp only[g]at a⊢;cases d:E.heap f c s.H with
 |none=>simp[d]at a
 |some q=>
 simp only[d]at a;simp only[e.heap f c s.H q d];exact a
theorem jM (c:O6 E E'){b:Nat}{f:Bool}{o:Xw}{s:St}{r:St×List Nat×List Nat}(a:W3 E b f o s=some r):W3 E' b f o s=some r:=by
 unfold W3 at a⊢;cases e:UC s.T o.guard with
 |none=>simp[e]at a
 |some g=>
 cases g with
 |false=>simp only[e]at a⊢;exact a
 |true=>
 simp only[e]at a⊢;cases i:Xt (W8.eval s.T) o.args with
 |none=>simp[i]at a
 |some j=>
 simp only[i,oH c]at a⊢;cases h:(f&&XK E o.op j)with
 |true=>
  simp only[h,cond_true]at a⊢;unfold Qt at a⊢;split at a
  ·exact Qa c a
  ·split at a
   ·exact Qa c a
   ·exact Qa c a
   ·simp at a
  ·simp at a
 |false=>
  simp only[h,cond_false]at a⊢;cases d:X8 E b o.op j (Xn s.H) s.H.length with
  |none=>simp[d]at a
  |some q=>
  simp only[d]at a;simp only[BY c d];exact a
theorem gx (d:O6 E E'){b:Nat}:∀{os:List Xw} {s c:St},V9 E b os s=some c->V9 E' b os s=some c
 |[],_,_,h=>h
 |o::os,s,c,h=>by
  simp only[V9]at h⊢;cases a:W3 E b true o s with
  |none=>simp[a]at h
  |some q=>
  obtain⟨s1,rd,wr⟩:=q;simp only[a]at h;simp only[jM d a];exact gx d h
theorem jL (a:O6 E E'){b:Nat}:∀{os:List Xw} {i:Nat} {s:St} {r:St×List RO},Uz E b i os s=some r->Uz E' b i os s=some r
 |[],_,_,_,h=>h
 |o::os,i,s,r,h=>by
  simp only[Uz,iD a]at h⊢;cases e:(Xk E o.op&& !(os.isEmpty&&TZ o.after i))with
  |true=>rw[e]at h;simp at h
  |false=>
  simp only[e,cond_false]at h⊢;cases d:W3 E b (Xk E o.op) o s with
  |none=>simp[d]at h
  |some q=>
  obtain⟨s1,rd,wr⟩:=q;simp only[d]at h;simp only[jM a d];cases c:Uz E b (i+1) os s1 with
  |none=>simp[c]at h
  |some f=>
  simp only[c]at h;simp only[jL a c];exact h
theorem jN (d:O6 E E'){b:Nat}{os:List Xw}{s c:St}(h:UA E b os s=some c):UA E' b os s=some c:=by
 unfold UA at h⊢;cases a:Uz E b 0 os s with
 |none=>simp[a]at h
 |some q=>
 simp only[a]at h;simp only[jL d a];exact h
theorem om {f g:St->Option (Ex×St)}(a:∀s r,f s=some r->g s=some r):∀(N b:Nat),N<=b->∀(s:St) (r:Ex×St),PX f N s=some r->PX g b s=some r
 |0,_,_,_,_,h=>by simp[PX]at h
 |N+1,0,hN,_,_,_=>by omega
 |N+1,b+1,hN,s,r,h=>by
  simp only[PX]at h⊢;cases c:f s with
  |none=>simp[c]at h
  |some q=>
  rw[a s q c];rw[c]at h;obtain⟨e,s1⟩:=q;cases e with
  |normal=>exact om a N b (by omega) s1 r h
  |exit j=>exact h
  |ret=>exact h
theorem fb {f g:St->Option (Ex×St)}(b:∀s r,f s=some r->g s=some r)(T:List (Nat×DV))(a:List Nat):∀(c:List (List PV)) (H:List Xz) (r:Ex×St),U1 T f a c H=some r->U1 T g a c H=some r
 |[],_,_,h=>h
 |xs::rest,H,r,h=>by
  simp only[U1]at h⊢;cases i:Qg a xs T with
  |none=>simp[i]at h
  |some k=>
  simp only[i]at h⊢;cases d:f ⟨k,H⟩with
  |none=>simp[d]at h
  |some q=>
  rw[b _ q d];rw[d]at h;obtain⟨e,s1⟩:=q;cases e with
  |normal=>exact fb b T a rest s1.H r h
  |exit j=>exact h
  |ret=>exact h
theorem wx (p:O6 E E'){K n b:Nat}(C:K<=n):∀(c:XH) (s:St) (r:Ex×St),XG E K b c s=some r->XG E' n b c s=some r:=by
 intro c;induction c with
 |skip=>intro s r h;exact h
 |region d os=>
  intro s r h;cases d with
  |false=>
   simp only[XG]at h⊢;cases i:V9 E b os s with
   |none=>simp[i]at h
   |some s1=>simp only[i]at h;simp only[gx p i];exact h
  |true=>
   simp only[XG]at h⊢;cases i:UA E b os s with
   |none=>simp[i]at h
   |some s1=>simp only[i]at h;simp only[jN p i];exact h
 |Rb m y=>
  intro s r h;simp only[XG,Pb]at h⊢;cases i:UA E b m s with
  |none=>simp[i]at h
  |some s1=>
  simp only[i]at h;simp only[jN p i];cases k:V9 E b y s1 with
  |none=>simp[k]at h
  |some s2=>simp only[k]at h;simp only[gx p k];exact h
 |seq a c g l=>
  intro s r h;simp only[XG]at h⊢;cases i:XG E K b a s with
  |none=>simp[i]at h
  |some q=>
  rw[g s q i];rw[i]at h;obtain⟨e,s1⟩:=q;cases e with
  |normal=>exact l s1 r h
  |exit j=>exact h
  |ret=>exact h
 |cond q a c g l=>
  intro s r h;simp only[XG]at h⊢;split at h
  ·exact g s r h
  ·exact l s r h
  ·simp at h
 |block j a g=>
  intro s r h;simp only[XG]at h⊢;cases i:XG E K b a s with
  |none=>simp[i]at h
  |some q=>rw[g s q i];rw[i]at h;exact h
 |loop a g=>
  intro s r h;simp only[XG]at h⊢;exact om g K n C s r h
 |VW G a g=>
  intro s r h;simp only[XG,RA]at h⊢;exact g _ r h
 |scope a g=>intro s r h;exact g s r h
 |exit j=>intro s r h;exact h
 |ret=>intro s r h;exact h
 |Pt f t m body x w=>
  intro s r h;simp only[XG]at h⊢;split at h
  ·rename_i B o F;simp only[p.iter];cases A:E.iter B o with
   |none=>simp[A]at h
   |some z=>
   simp only[A]at h⊢;obtain⟨v,h⟩:=X3 h;rw[v,cond_true];refine fb (fun s r u=> ?_) s.T t z s.H r h;unfold TP at u⊢;split at u
   ·rename_i s1 D;show(match XG E' n b m s with
     |some (.normal,s)=>XG E' n b body s
     |_=>none)=some r
    rw[x s _ D];exact w s1 r u
   ·simp at u
  ·simp at h
theorem jO (e:O6 E E'){K d:Nat}(f:K<=d){b:Vb}{args:List DV}{H:List Xz}{r:List DV×St}(h:Sp E K b args H=some r):Sp E' d b args H=some r:=by
 unfold Sp at h⊢;rw[Oj]at h⊢;cases a:Nat.ble args.length b.ntmps with
 |false=>rw[a]at h;simp at h
 |true=>
 rw[a,cond_true]at h;rw[cond_true];cases c:XG E K 0 b.body ⟨Ur args 0,H⟩with
 |none=>simp[c]at h
 |some q=>
 rw[wx e f _ _ _ c];rw[c]at h;exact h
theorem tO (c:O6 E E')(X:Nat->Option Vb){K g:Nat}(i:K<=g):O6 (lift X K E) (lift X g E'):=by
 refine⟨c.mode,fun f a r h=> ?_,fun f a H r h=> ?_,c.iter⟩
 ·simp only[lift]at h⊢;cases d:X f with
  |none=>rw[d]at h;exact c.pure f a r h
  |some e=>
   rw[d]at h;simp only[Ug]at h⊢;cases b:Sp E K e (a.map inj) []with
   |none=>simp[b]at h
   |some q=>rw[b]at h;rw[jO c i b];exact h
 ·simp only[lift]at h⊢;cases d:X f with
  |none=>rw[d]at h;exact c.heap f a H r h
  |some e=>
   rw[d]at h;simp only[Uh]at h⊢;cases b:Sp E K e a H with
   |none=>simp[b]at h
   |some q=>rw[b]at h;rw[jO c i b];exact h
end
theorem O6.refl (E:Xa):O6 E E:=⟨rfl,fun _ _ _ h=>h,fun _ _ _ _ h=>h,rfl⟩
theorem O6.trans {b c d:Xa}(h:O6 b c)(k:O6 c d):O6 b d:=
 ⟨k.mode.trans h.mode,fun f a r e=>k.pure f a r (h.pure f a r e),fun f a H r e=>k.heap f a H r (h.heap f a H r e),k.iter.trans h.iter⟩
theorem EY (E0:Xa)(X:Nat->Option Vb)(h0:∀K,O6 E0 (lift X K E0)){K a:Nat}(c:K<=a):∀{n m:Nat},n<=m->O6 (ev E0 X K n) (ev E0 X a m):=by
 have f:∀n,O6 (ev E0 X K n) (ev E0 X a n):=by
  intro n;induction n with
  |zero=>exact O6.refl _
  |succ n b=>exact tO b X c
 have step:∀n,O6 (ev E0 X a n) (ev E0 X a (n+1)):=by
  intro n;induction n with
  |zero=>exact h0 a
  |succ n b=>exact tO b X (Zh _)
 intro n m d;refine(f n).trans ?_;induction m with
 |zero=>rw[show n=0 by omega];exact O6.refl _
 |succ m b=>
  by_cases e:n=m+1
  ·subst e;exact O6.refl _
  ·exact(b (by omega)).trans (step m)
end Go.Ev
namespace Go.Ev
theorem RK {a b:Nat}(h:a<=b):Nat.ble a b=true:=by rw[Nat.ble_eq];exact h
theorem CK {a b:Nat}(h:b<a):Nat.ble a b=false:=by
 cases c:Nat.ble a b with
 |false=>rfl
 |true=>have:=WS c;omega
theorem Og {a b:Nat}(h:a<b):Nat.blt a b=true:=by rw[Nat.blt_eq];exact h
theorem E2 {a b:Nat}(h:b<=a):Nat.blt a b=false:=by
 cases c:Nat.blt a b with
 |false=>rfl
 |true=>have:=RJ c;omega
theorem pL {a b:Nat}(h:a=b):Nat.beq a b=true:=by subst h;exact YW a
theorem E3 {a b:Nat}(h:a≠b):Nat.beq a b=false:=by
 cases c:Nat.beq a b with
 |false=>rfl
 |true=>exact absurd (Zl c) h
section
variable {E:Xa}{K b n i:Nat}{o:Xw}{os:List Xw}{s s1 s2:St}{rd wr:List Nat}{T:List (Nat×DV)}{H:List Xz}{h:HF}
def OQ:List RO->Prop
 |[]=>True
 |f::fs=>(f.wr=[]/\f.lo=f.hi)/\OQ fs
theorem BT {b:List RO}(i:OQ b):Rh b=true:=by
 have c:∀(a:List RO),OQ a->a.all (fun f=>(f.wr.isEmpty&&Nat.beq f.lo f.hi)||b.all fun g=>P3 f g)=true:=by
  intro a;induction a with
  |nil=>intro _;rfl
  |cons f a j=>
   intro⟨⟨d,e⟩,h⟩;simp only[List.all_cons,d,e,List.isEmpty_nil,YW,YF,Bool.true_or];exact j h
 exact c b i
theorem mF {x:Nat}(c:x<9223372036854775808):Xe .i64 (Int.ofNat x)=Int.ofNat x:=by
 have a:x%18446744073709551616=x:=Zg (by omega);have b:Nat.ble 9223372036854775808 x=false:=CK c;simp only[Xe,WK,S6,a,UB,lG,YF];rw[show(18446744073709551616 / 2:Nat)=9223372036854775808 from rfl,b];rfl
end
end Go.Ev
