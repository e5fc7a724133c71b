/- The interpreter over a table of functions is sound, at every depth. -/
import Derived.Test.YtefpgecinlekpaaGreatEvDraw
namespace Go.Ev
open Go.RowKit
theorem BO {P:Program}(g:P.follows .mixedOrders=true)(X:Nat->Option W4)(l:∀f c,X f=some c->QZ P f c)(K:Nat)(E:Xb)(b:Wu P E):Wu P (lift X K E):=by
 have k:=tV b g;refine⟨fun f m r h=> ?_,fun f args H d j h=> ?_,fun f e i h=>b.iter f e i h⟩
 ·simp only[lift]at h;cases a:X f with
  |none=>rw[a]at h;exact b.pure f m r h
  |some c=>rw[a]at h;exact yk E b k K (l f c a) m r h
 ·simp only[lift]at h;cases a:X f with
  |none=>rw[a]at h;exact b.heap f args H d j h
  |some c=>rw[a]at h;exact zr E b k K (l f c a) args H d j h
theorem tO {P:Program}(a:P.follows .mixedOrders=true)(X:Nat->Option W4)(c:∀f d,X f=some d->QZ P f d)(K:Nat)(E0:Xb)(b:Wu P E0):∀n,Wu P (ev E0 X K n)
 |0=>b
 |n+1=>BO a X c K _ (tO a X c K E0 b n)
def F0 (md:Nat->Mode):Xb:=⟨md,fun _ _=>none,fun _ _ _=>none,fun _ _=>none⟩
theorem Es {P:Program}(md:Nat->Mode):Wu P (F0 md):=
 ⟨(fun _ _ _ h=>by cases h),(fun _ _ _ _ _ h=>by cases h),(fun _ _ _ h=>by cases h)⟩
structure Nk (E E':Xb):Prop where
 mode:E'.mode=E.mode
 pure:∀f a r,E.pure f a=some r->E'.pure f a=some r
 heap:∀f a H r,E.heap f a H=some r->E'.heap f a H=some r
 iter:E'.iter=E.iter
section
variable {E E':Xb}
theorem bW (d:Nk E E'){h:HF}{f:Nat}{c:List DV}{r:W5}(a:WO E h f c=some r):WO E' h f c=some r:=by
 unfold WO at a⊢;rw[d.mode];cases e:E.mode f with
 |heap=>simp[e]at a
 |pure=>
 simp only[e]at a⊢;cases g:Xt (XU h) c with
 |none=>simp[g]at a
 |some i=>
 simp only[g]at a⊢;cases b:E.pure f i with
 |none=>simp[b]at a
 |some q=>
 simp only[b]at a;simp only[d.pure f i q b];exact a
theorem Cd (c:Nk E E'){b:Nat}{d:aX}{e:List DV}{h:HF}{n:Nat}{r:W5}(a:Wc E b d e h n=some r):Wc E' b d e h n=some r:=by
 cases d with
 |call f=>exact bW c a
 |U3=>
  simp only[Wc,UY]at a⊢;split at a
  ·exact bW c a
  ·exact bW c a
  ·simp at a
 |_=>exact a
theorem Pp (a:Nk E E')(f:Nat):W1 E' f=W1 E f:=by
 unfold W1;rw[a.mode]
theorem iG (b:Nk E E')(a:aX):Xk E' a=Xk E a:=by
 unfold Xk;split
 ·exact Pp b _
 ·rfl
theorem ov (a:Nk E E')(b:aX)(c:List DV):XG E' b c=XG E b c:=by
 unfold XG;split
 ·exact Pp a _
 ·split
  ·exact Pp a _
  ·exact Pp a _
  ·rfl
 ·rfl
theorem Qq (e:Nk E E'){b:Option Nat}{f:Nat}{c:List DV}{s:St}{r:St×List Nat×List Nat}(a:W7 E b f c s=some r):W7 E' b f c s=some r:=by
 unfold W7 at a⊢;rw[e.mode];cases g:E.mode f with
 |pure=>simp[g]at a
 |heap=>
 simp only[g]at a⊢;cases d:E.heap f c s.H with
 |none=>simp[d]at a
 |some q=>
 simp only[d]at a;simp only[e.heap f c s.H q d];exact a
theorem jP (c:Nk E E'){b:Nat}{f:Bool}{o:Xx}{s:St}{r:St×List Nat×List Nat}(a:WZ E b f o s=some r):WZ E' b f o s=some r:=by
 unfold WZ at a⊢;cases e:UD s.T o.guard with
 |none=>simp[e]at a
 |some g=>
 cases g with
 |false=>simp only[e]at a⊢;exact a
 |true=>
 simp only[e]at a⊢;cases i:Xt (W8.eval s.T) o.args with
 |none=>simp[i]at a
 |some j=>
 simp only[i,ov c]at a⊢;cases h:(f&&XG E o.op j)with
 |true=>
  simp only[h,cond_true]at a⊢;unfold QM at a⊢;split at a
  ·exact Qq c a
  ·split at a
   ·exact Qq c a
   ·exact Qq c a
   ·simp at a
  ·simp at a
 |false=>
  simp only[h,cond_false]at a⊢;cases d:Wc E b o.op j (Xl s.H) s.H.length with
  |none=>simp[d]at a
  |some q=>
  simp only[d]at a;simp only[Cd c d];exact a
theorem gu (d:Nk E E'){b:Nat}:∀{os:List Xx} {s c:St},Uf E b os s=some c->Uf E' b os s=some c
 |[],_,_,h=>h
 |o::os,s,c,h=>by
  simp only[Uf]at h⊢;cases a:WZ E b true o s with
  |none=>simp[a]at h
  |some q=>
  obtain⟨s1,rd,wr⟩:=q;simp only[a]at h;simp only[jP d a];exact gu d h
theorem jO (a:Nk E E'){b:Nat}:∀{os:List Xx} {i:Nat} {s:St} {r:St×List RW},Uy E b i os s=some r->Uy E' b i os s=some r
 |[],_,_,_,h=>h
 |o::os,i,s,r,h=>by
  simp only[Uy,iG a]at h⊢;cases e:(Xk E o.op&& !(os.isEmpty&&TZ o.after i))with
  |true=>rw[e]at h;simp at h
  |false=>
  simp only[e,cond_false]at h⊢;cases d:WZ E b (Xk E o.op) o s with
  |none=>simp[d]at h
  |some q=>
  obtain⟨s1,rd,wr⟩:=q;simp only[d]at h;simp only[jP a d];cases c:Uy E b (i+1) os s1 with
  |none=>simp[c]at h
  |some f=>
  simp only[c]at h;simp only[jO a c];exact h
theorem jQ (d:Nk E E'){b:Nat}{os:List Xx}{s c:St}(h:Uz E b os s=some c):Uz E' b os s=some c:=by
 unfold Uz at h⊢;cases a:Uy E b 0 os s with
 |none=>simp[a]at h
 |some q=>
 simp only[a]at h;simp only[jO d a];exact h
theorem n9 {f g:St->Option (Ex×St)}(a:∀s r,f s=some r->g s=some r):∀(N b:Nat),N<=b->∀(s:St) (r:Ex×St),Ob f N s=some r->Ob g b s=some r
 |0,_,_,_,_,h=>by simp[Ob]at h
 |N+1,0,hN,_,_,_=>by omega
 |N+1,b+1,hN,s,r,h=>by
  simp only[Ob]at h⊢;cases c:f s with
  |none=>simp[c]at h
  |some q=>
  rw[a s q c];rw[c]at h;obtain⟨e,s1⟩:=q;cases e with
  |normal=>exact n9 a N b (by omega) s1 r h
  |exit j=>exact h
  |ret=>exact h
theorem eY {f g:St->Option (Ex×St)}(b:∀s r,f s=some r->g s=some r)(T:List (Nat×DV))(a:List Nat):∀(c:List (List PV)) (H:List Xz) (r:Ex×St),UX T f a c H=some r->UX T g a c H=some r
 |[],_,_,h=>h
 |xs::rest,H,r,h=>by
  simp only[UX]at h⊢;cases i:Qx a xs T with
  |none=>simp[i]at h
  |some k=>
  simp only[i]at h⊢;cases d:f ⟨k,H⟩with
  |none=>simp[d]at h
  |some q=>
  rw[b _ q d];rw[d]at h;obtain⟨e,s1⟩:=q;cases e with
  |normal=>exact eY b T a rest s1.H r h
  |exit j=>exact h
  |ret=>exact h
theorem wb (p:Nk E E'){K n b:Nat}(C:K<=n):∀(c:XE) (s:St) (r:Ex×St),XD E K b c s=some r->XD E' n b c s=some r:=by
 intro c;induction c with
 |skip=>intro s r h;exact h
 |region d os=>
  intro s r h;cases d with
  |false=>
   simp only[XD]at h⊢;cases i:Uf E b os s with
   |none=>simp[i]at h
   |some s1=>simp only[i]at h;simp only[gu p i];exact h
  |true=>
   simp only[XD]at h⊢;cases i:Uz E b os s with
   |none=>simp[i]at h
   |some s1=>simp only[i]at h;simp only[jQ p i];exact h
 |Re m y=>
  intro s r h;simp only[XD,Pu]at h⊢;cases i:Uz E b m s with
  |none=>simp[i]at h
  |some s1=>
  simp only[i]at h;simp only[jQ p i];cases k:Uf E b y s1 with
  |none=>simp[k]at h
  |some s2=>simp only[k]at h;simp only[gu p k];exact h
 |seq a c g l=>
  intro s r h;simp only[XD]at h⊢;cases i:XD E K b a s with
  |none=>simp[i]at h
  |some q=>
  rw[g s q i];rw[i]at h;obtain⟨e,s1⟩:=q;cases e with
  |normal=>exact l s1 r h
  |exit j=>exact h
  |ret=>exact h
 |cond q a c g l=>
  intro s r h;simp only[XD]at h⊢;split at h
  ·exact g s r h
  ·exact l s r h
  ·simp at h
 |block j a g=>
  intro s r h;simp only[XD]at h⊢;cases i:XD E K b a s with
  |none=>simp[i]at h
  |some q=>rw[g s q i];rw[i]at h;exact h
 |loop a g=>
  intro s r h;simp only[XD]at h⊢;exact n9 g K n C s r h
 |V2 G a g=>
  intro s r h;simp only[XD,RH]at h⊢;exact g _ r h
 |scope a g=>intro s r h;exact g s r h
 |exit j=>intro s r h;exact h
 |ret=>intro s r h;exact h
 |PJ f t m body x w=>
  intro s r h;simp only[XD]at h⊢;split at h
  ·rename_i B o F;simp only[p.iter];cases A:E.iter B o with
   |none=>simp[A]at h
   |some z=>
   simp only[A]at h⊢;obtain⟨v,h⟩:=XX h;rw[v,cond_true];refine eY (fun s r u=> ?_) s.T t z s.H r h;unfold TO at u⊢;split at u
   ·rename_i s1 D;show(match XD E' n b m s with
     |some (.normal,s)=>XD E' n b body s
     |_=>none)=some r
    rw[x s _ D];exact w s1 r u
   ·simp at u
  ·simp at h
theorem jR (e:Nk E E'){K d:Nat}(f:K<=d){b:W4}{args:List DV}{H:List Xz}{r:List DV×St}(h:Sv E K b args H=some r):Sv E' d b args H=some r:=by
 unfold Sv at h⊢;rw[Oy]at h⊢;cases a:Nat.ble args.length b.ntmps with
 |false=>rw[a]at h;simp at h
 |true=>
 rw[a,cond_true]at h;rw[cond_true];cases c:XD E K 0 b.body ⟨Ur args 0,H⟩with
 |none=>simp[c]at h
 |some q=>
 rw[wb e f _ _ _ c];rw[c]at h;exact h
theorem tx (c:Nk E E')(X:Nat->Option W4){K g:Nat}(i:K<=g):Nk (lift X K E) (lift X g E'):=by
 refine⟨c.mode,fun f a r h=> ?_,fun f a H r h=> ?_,c.iter⟩
 ·simp only[lift]at h⊢;cases d:X f with
  |none=>rw[d]at h;exact c.pure f a r h
  |some e=>
   rw[d]at h;simp only[UZ]at h⊢;cases b:Sv E K e (a.map inj) []with
   |none=>simp[b]at h
   |some q=>rw[b]at h;rw[jR c i b];exact h
 ·simp only[lift]at h⊢;cases d:X f with
  |none=>rw[d]at h;exact c.heap f a H r h
  |some e=>
   rw[d]at h;simp only[VU]at h⊢;cases b:Sv E K e a H with
   |none=>simp[b]at h
   |some q=>rw[b]at h;rw[jR c i b];exact h
end
theorem Nk.refl (E:Xb):Nk E E:=⟨rfl,fun _ _ _ h=>h,fun _ _ _ _ h=>h,rfl⟩
theorem Nk.trans {b c d:Xb}(h:Nk b c)(k:Nk c d):Nk b d:=
 ⟨k.mode.trans h.mode,fun f a r e=>k.pure f a r (h.pure f a r e),fun f a H r e=>k.heap f a H r (h.heap f a H r e),k.iter.trans h.iter⟩
theorem Fj (E0:Xb)(X:Nat->Option W4)(h0:∀K,Nk E0 (lift X K E0)){K a:Nat}(c:K<=a):∀{n m:Nat},n<=m->Nk (ev E0 X K n) (ev E0 X a m):=by
 have f:∀n,Nk (ev E0 X K n) (ev E0 X a n):=by
  intro n;induction n with
  |zero=>exact Nk.refl _
  |succ n b=>exact tx b X c
 have step:∀n,Nk (ev E0 X a n) (ev E0 X a (n+1)):=by
  intro n;induction n with
  |zero=>exact h0 a
  |succ n b=>exact tx b X (Zh _)
 intro n m d;refine(f n).trans ?_;induction m with
 |zero=>rw[show n=0 by omega];exact Nk.refl _
 |succ m b=>
  by_cases e:n=m+1
  ·subst e;exact Nk.refl _
  ·exact(b (by omega)).trans (step m)
end Go.Ev
namespace Go.Ev
theorem Qf {a b:Nat}(h:a<=b):Nat.ble a b=true:=by rw[Nat.ble_eq];exact h
theorem CZ {a b:Nat}(h:b<a):Nat.ble a b=false:=by
 cases c:Nat.ble a b with
 |false=>rfl
 |true=>have:=WS c;omega
theorem PF {a b:Nat}(h:a<b):Nat.blt a b=true:=by rw[Nat.blt_eq];exact h
theorem Fm {a b:Nat}(h:b<=a):Nat.blt a b=false:=by
 cases c:Nat.blt a b with
 |false=>rfl
 |true=>have:=RS c;omega
theorem pz {a b:Nat}(h:a=b):Nat.beq a b=true:=by subst h;exact YG a
theorem Fo {a b:Nat}(h:a≠b):Nat.beq a b=false:=by
 cases c:Nat.beq a b with
 |false=>rfl
 |true=>exact absurd (Zm c) h
section
variable {E:Xb}{K b n i:Nat}{o:Xx}{os:List Xx}{s s1 s2:St}{rd wr:List Nat}{T:List (Nat×DV)}{H:List Xz}{h:HF}
def O3:List RW->Prop
 |[]=>True
 |f::fs=>(f.wr=[]/\f.lo=f.hi)/\O3 fs
theorem B8 {b:List RW}(i:O3 b):Rl b=true:=by
 have c:∀(a:List RW),O3 a->a.all (fun f=>(f.wr.isEmpty&&Nat.beq f.lo f.hi)||b.all fun g=>Oh f g)=true:=by
  intro a;induction a with
  |nil=>intro _;rfl
  |cons f a j=>
   intro⟨⟨d,e⟩,h⟩;simp only[List.all_cons,d,e,List.isEmpty_nil,YG,Bool.true_and,Bool.true_or];exact j h
 exact c b i
theorem mn {x:Nat}(c:x<9223372036854775808):Xe .i64 (Int.ofNat x)=Int.ofNat x:=by
 have a:x%18446744073709551616=x:=Zf (by omega);have b:Nat.ble 9223372036854775808 x=false:=CZ c;simp only[Xe,WJ,S8,a,UC,ly,Bool.true_and];rw[show(18446744073709551616 / 2:Nat)=9223372036854775808 from rfl,b];rfl
end
end Go.Ev
