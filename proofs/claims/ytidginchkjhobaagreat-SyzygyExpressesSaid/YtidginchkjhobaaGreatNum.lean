/- The interpreter over a table of functions is sound, at every depth. -/
import Derived.Test.YtidginchkjhobaaGreatEvDraw
namespace Go.Ev
open Go.RowKit
theorem Hi {P}(e:P.follows .mixedOrders=true)(X:Nat->Option Vu)(k:∀f b,X f=some b->PY P f b)(K)(E)(hE:WI P E):WI P (lift X K E):=by
 have j:=zC hE e;refine⟨fun f l r h=> ?_,fun f args H d i h=> ?_,fun f c g h=>hE.iter f c g h⟩
 ·simp only[lift]at h;cases a:X f with
  |none=>rw[a]at h;exact hE.pure f l r h
  |some b=>rw[a]at h;exact DE E hE j K (k f b a) l r h
 ·simp only[lift]at h;cases a:X f with
  |none=>rw[a]at h;exact hE.heap f args H d i h
  |some b=>rw[a]at h;exact EB E hE j K (k f b a) args H d i h
theorem zu {P}(a:P.follows .mixedOrders=true)(X:Nat->Option Vu)(b:∀f c,X f=some c->PY P f c)(K)(E0)(hE:WI P E0):∀n,WI P (ev E0 X K n)
 |0=>hE
 |n+1=>Hi a X b K _ (zu a X b K E0 hE n)
def Mw (md:Nat->Mode):Xa:=⟨md,fun _ _=>none,fun _ _ _=>none,fun _ _=>none⟩
theorem Kv {P}(md:Nat->Mode):WI P (Mw md):=
 ⟨(fun _ _ _ h=>by cases h),(fun _ _ _ _ _ h=>by cases h),(fun _ _ _ h=>by cases h)⟩
structure NK (E E':Xa):Prop where
 mode:E'.mode=E.mode
 pure:∀f a r,E.pure f a=some r->E'.pure f a=some r
 heap:∀f a H r,E.heap f a H=some r->E'.heap f a H=some r
 iter:E'.iter=E.iter
section
variable {E E':Xa}
theorem oh (hE:NK E E'){h}{f}{c}{r}(a:WX E h f c=some r):WX E' h f c=some r:=by
 unfold WX at a⊢;cases i:TH c with
 |none=>
  simp only[i]at a⊢;cases e:c.all RC with
  |false=>simp[e]at a
  |true=>
   cases d:E.heap f c []with
   |none=>simp[d]at a
   |some q=>rw[hE.heap f c [] q d];grind
 |some q=>
  obtain⟨id,XW,j⟩:=q;simp only[i]at a⊢;cases e:Qr c with
  |false=>simp[e]at a
  |true=>
   cases g:h id with
   |none=>simp[g]at a
   |some b=>
    simp only[g]at a⊢;cases k:(Nat.beq b.XW XW&& !b.mp&& !b.fz&&b.ch.all Wi)with
    |false=>grind
    |true=>
     rw[cond_true];cases d:E.heap f (S8 c) [b]with
     |none=>simp[d]at a
     |some q=>rw[hE.heap f _ _ q d];grind
theorem oi (hE:NK E E'){h}{f}{c}{r}(a:VL E h f c=some r):VL E' h f c=some r:=by
 unfold VL at a⊢;rw[hE.mode];cases d:E.mode f with
 |heap=>simp[d]at a
 |view=>grind [oh]
 |fresh=>grind [oh]
 |pure=>
 simp only[d]at a⊢;cases e:Xw (XX h) c with
 |none=>simp[e]at a
 |some g=>
 simp only[e]at a⊢;cases b:E.pure f g with
 |none=>simp[b]at a
 |some q=>
 simp only[b]at a;simp only[hE.pure f g q b];exact a
theorem HJ (hE:NK E E'){b}{c}{d}{h}{n}{r}(a:Wf E b c d h n=some r):Wf E' b c d h n=some r:=by
 cases c with
 |call f=>exact oi hE a
 |Sw=>
  simp only[Wf,Rr]at a⊢
  grind [oi]
 |_=>exact a
theorem kn (hE:NK E E')(f):TB E' f=TB E f:=by
 unfold TB;rw[hE.mode]
theorem wX (hE:NK E E')(f):ak E' f=ak E f:=by
 unfold ak;rw[hE.mode]
theorem mG (hE:NK E E')(a):Xm E' a=Xm E a:=by
 unfold Xm
 grind [kn]
theorem ug (hE:NK E E')(a)(b):XQ E' a b=XQ E a b:=by
 unfold XQ
 grind [wX,kn]
theorem BH (hE:NK E E'){f}{a}{H}{q}(h:UL E f a H=some q):UL E' f a H=some q:=by
 unfold UL at h⊢;cases g:TH a with
 |none=>
  simp only[g]at h⊢;cases d:a.all RC with
  |false=>simp[d]at h
  |true=>
   cases c:E.heap f a []with
   |none=>simp[c]at h
   |some r=>rw[hE.heap f a [] r c];grind
 |some q=>
  obtain⟨id,XW,j⟩:=q;simp only[g]at h⊢;cases d:Qr a with
  |false=>simp[d]at h
  |true=>
   cases e:H[id]? with
   |none=>simp[e]at h
   |some b=>
    simp only[e]at h⊢;cases i:(Nat.beq b.XW XW&& !b.mp&& !b.fz&&b.ch.all Wi)with
    |false=>rw[i]at h;simp at h
    |true=>
     rw[cond_true];cases c:E.heap f (S8 a) [b]with
     |none=>simp[c]at h
     |some r=>rw[hE.heap f _ _ r c];grind
theorem mI (hE:NK E E'){b}{f}{c}{s}{r}(a:VA E b f c s=some r):VA E' b f c s=some r:=by
 unfold VA at a⊢;rw[hE.mode];cases e:E.mode f with
 |pure=>simp[e]at a
 |view=>simp[e]at a
 |fresh=>
  grind [BH]
 |heap=>
 simp only[e]at a⊢;cases d:E.heap f c s.H with
 |none=>simp[d]at a
 |some q=>
 simp only[d]at a;simp only[hE.heap f c s.H q d];exact a
theorem om (hE:NK E E'){b}{c}{o}{s}{r}(a:Vz E b c o s=some r):Vz E' b c o s=some r:=by
 unfold Vz at a⊢;cases d:U7 s.T o.guard with
 |none=>simp[d]at a
 |some g=>
 cases g with
 |false=>grind
 |true=>
 simp only[d]at a⊢;cases e:Xw (VB.eval s.T) o.args with
 |none=>simp[e]at a
 |some f=>
 simp only[e,ug hE]at a⊢;cases h:(c&&XQ E o.op f)with
 |true=>
  unfold PG at a⊢
  grind [mI]
 |false=>
  grind [HJ]
theorem kQ (hE:NK E E'){b}:∀{os} {s c},U8 E b os s=some c->U8 E' b os s=some c
 |[],_,_,h=>h
 |o::os,s,c,h=>by
  simp only[U8]at h⊢;cases a:Vz E b true o s with
  |none=>simp[a]at h
  |some q=>
  obtain⟨s1,rd,wr⟩:=q;simp only[a]at h;simp only[om hE a];exact kQ hE h
theorem oj (hE:NK E E'){b}:∀{os} {i} {s} {r:St×List QK},Tt E b i os s=some r->Tt E' b i os s=some r
 |[],_,_,_,h=>h
 |o::os,i,s,r,h=>by
  simp only[Tt,mG hE]at h⊢;cases d:(Xm E o.op&& !(os.isEmpty&&SX o.after i))with
  |true=>rw[d]at h;simp at h
  |false=>
  simp only[d,cond_false]at h⊢;cases c:Vz E b (Xm E o.op) o s with
  |none=>simp[c]at h
  |some q=>
  obtain⟨s1,rd,wr⟩:=q;simp only[c]at h;simp only[om hE c];cases a:Tt E b (i+1) os s1 with
  |none=>simp[a]at h
  |some e=>
  simp only[a]at h;simp only[oj hE a];exact h
theorem oo (hE:NK E E'){b}{os}{s a}(h:TK E b os s=some a):TK E' b os s=some a:=by grind [TK,oj]
theorem tU {f g}(a:∀s r,f s=some r->g s=some r):∀N b,N<=b->∀s (r:Ex×St),Nf f N s=some r->Nf g b s=some r
 |0,_,_,_,_,h=>by simp[Nf]at h
 |N+1,0,hN,_,_,_=>by omega
 |N+1,b+1,hN,s,r,h=>by
  simp only[Nf]at h⊢;cases c:f s with
  |none=>simp[c]at h
  |some q=>
  rw[a s q c];rw[c]at h;obtain⟨e,s1⟩:=q;cases e with
  |normal=>exact tU a N b (by omega) s1 r h
  |exit j=>exact h
  |ret=>exact h
theorem jm {f g:St->Option (Ex×St)}(b:∀s r,f s=some r->g s=some r)(T:List (Nat×DV))(a:P'):∀(c:List (List PV)) (H:V') (r:Ex×St),Tz T f a c H=some r->Tz T g a c H=some r
 |[],_,_,h=>h
 |xs::rest,H,r,h=>by
  simp only[Tz]at h⊢;cases i:Pp a xs T with
  |none=>simp[i]at h
  |some k=>
  simp only[i]at h⊢;cases d:f ⟨k,H⟩with
  |none=>simp[d]at h
  |some q=>
  rw[b _ q d];rw[d]at h;obtain⟨e,s1⟩:=q;cases e with
  |normal=>exact jm b T a rest s1.H r h
  |exit j=>exact h
  |ret=>exact h
theorem BP (hE:NK E E'){K m b:Nat}(x:K<=m):∀(c:XN) (s:St) (r:Ex×St),XP E K b c s=some r->XP E' m b c s=some r:=by
 intro c;induction c with
 |skip=>intro s r h;exact h
 |region d os=>
  intro s r h;cases d with
  |false=>
   grind [XP,kQ]
  |true=>
   grind [XP,oo]
 |R2 l v=>
  grind [XP,Ox,oo,kQ]
 |seq a c e k=>
  grind [XP]
 |cond q a c e k=>
  grind [XP]
 |block j a e=>
  grind [XP]
 |loop a e=>
  grind [XP,tU]
 |VS z a e=>
  grind [XP,Qw]
 |scope a e=>intro s r h;exact e s r h
 |exit j=>intro s r h;exact h
 |ret=>intro s r h;exact h
 |OJ f o l body u t=>
  intro s r h;simp only[XP]at h⊢;split at h
  ·rename_i p g y;simp only[hE.iter];cases n:E.iter p g with
   |none=>simp[n]at h
   |some w=>
   simp only[n]at h⊢;obtain⟨i,h⟩:=Wq h;rw[i,cond_true]
   grind [jm,SG]
  ·simp at h
theorem oq (hE:NK E E'){K c}(d:K<=c){b}{args}{H}{r:X'×St}(h:QB E K b args H=some r):QB E' c b args H=some r:=by
 unfold QB at h⊢;rw[NF]at h⊢;cases a:Nat.ble args.length b.ntmps with
 |false=>rw[a]at h;simp at h
 |true=>
 grind [BP]
theorem yW (hE:NK E E')(X:Nat->Option Vu){K c}(e:K<=c):NK (lift X K E) (lift X c E'):=by
 refine⟨hE.mode,fun f a r h=> ?_,fun f a H r h=> ?_,hE.iter⟩
 ·simp only[lift]at h⊢;cases b:X f with
  |none=>rw[b]at h;exact hE.pure f a r h
  |some d=>
   simp only[UN]at h⊢
   grind [oq]
 ·simp only[lift]at h⊢;cases b:X f with
  |none=>rw[b]at h;exact hE.heap f a H r h
  |some d=>
   grind [VN,oq]
end
theorem NK.refl (E):NK E E:=⟨rfl,fun _ _ _ h=>h,fun _ _ _ _ h=>h,rfl⟩
theorem NK.trans {b c d}(h:NK b c)(k:NK c d):NK b d:=
 ⟨k.mode.trans h.mode,fun f a r e=>k.pure f a r (h.pure f a r e),fun f a H r e=>k.heap f a H r (h.heap f a H r e),k.iter.trans h.iter⟩
theorem LN (E0)(X:Nat->Option Vu)(h0:∀K,NK E0 (lift X K E0)){K a}(c:K<=a):∀{n m},n<=m->NK (ev E0 X K n) (ev E0 X a m):=by
 have f:∀n,NK (ev E0 X K n) (ev E0 X a n):=by
  intro n;induction n with
  |zero=>exact NK.refl _
  |succ n b=>exact yW b X c
 have step:∀n,NK (ev E0 X a n) (ev E0 X a (n+1)):=by
  intro n;induction n with
  |zero=>exact h0 a
  |succ n b=>exact yW b X (Zf _)
 intro n m d;refine(f n).trans ?_;induction m with
 |zero=>grind [NK.refl]
 |succ m b=>
  by_cases e:n=m+1
  ·grind [NK.refl]
  ·exact(b (by omega)).trans (step m)
theorem PU {a b}(h:a<=b):Nat.ble a b=true:=by rw[Nat.ble_eq];exact h
theorem Iz {a b}(h:b<a):Nat.ble a b=false:=by
 cases c:Nat.ble a b with
 |false=>rfl
 |true=>have:=Vp c;omega
theorem aP {a b}(h:a<b):Nat.blt a b=true:=by rw[Nat.blt_eq];exact h
theorem LU {a b}(h:b<=a):Nat.blt a b=false:=by
 cases c:Nat.blt a b with
 |false=>rfl
 |true=>have:=QG c;omega
theorem zJ {a b}(h:a=b):Nat.beq a b=true:=by subst h;exact Yw a
theorem LV {a b}(h:a≠b):Nat.beq a b=false:=by
 cases c:Nat.beq a b with
 |false=>rfl
 |true=>exact absurd (Zl c) h
section
variable {E:Xa}{K b n i:Nat}{o:Xz}{os:O'}{s s1 s2:St}{rd wr:P'}{T:List (Nat×DV)}{H:V'}{h:HF}
def aA:List QK->Prop
 |[]=>True
 |f::fs=>(f.wr=[]/\f.lo=f.hi)/\aA fs
theorem HD {b}(i:aA b):R9 b=true:=by
 have c:∀(a:List QK),aA a->a.all (fun f=>(f.wr.isEmpty&&Nat.beq f.lo f.hi)||b.all fun g=>Nn f g)=true:=by
  intro a;induction a with
  |nil=>intro _;rfl
  |cons f a j=>
   intro⟨⟨d,e⟩,h⟩;simp only[List.all_cons,d,e,List.isEmpty_nil,Yw,Bool.true_and,Bool.true_or];exact j h
 exact c b i
theorem rL {x}(c:x<9223372036854775808):Xd .i64 (Int.ofNat x)=Int.ofNat x:=by
 have a:x%18446744073709551616=x:=Zi (by omega);have b:Nat.ble 9223372036854775808 x=false:=Iz c;simp only[Xd,W4,QL,a,U6,qm,Bool.true_and];rw[show(18446744073709551616 / 2:Nat)=9223372036854775808 from rfl,b];rfl
end
def B:Nat:=4294967296
def val:P'->Nat
 |[]=>0
 |w::ws=>w+4294967296*val ws
def WR (ws:P'):Prop:=∀w∈ws,w<4294967296
theorem WR.cons {w}{a}(h:WR (w::a)):w<4294967296/\WR a:=⟨h w (by simp),fun x b=>h x (by simp[b])⟩
theorem WR.mk {w}{b}(h:w<4294967296)(k:WR b):WR (w::b):=by
 intro x a;rcases Zk.1 a with rfl|a
 ·exact h
 ·exact k x a
theorem WR.nil:WR []:=fun _ h=>by cases h
def VC:P'->P'
 |[]=>[]
 |w::ws=>match VC ws with
  |[]=>if w=0 then[]else[w]
  |t=>w::t
theorem rO:∀a,val (VC a)=val a
 |[]=>rfl
 |w::a=>by
  have b:=rO a
  grind [VC,val]
def Canon:P'->Prop
 |[]=>True
 |[w]=>w≠0
 |_::v::ws=>Canon (v::ws)
theorem iK:∀b,Canon (VC b)
 |[]=>trivial
 |w::b=>by
  have d:=iK b;unfold VC;split
  ·split
   ·trivial
   ·assumption
  ·rename_i t h;cases c:VC b with
   |nil=>exact absurd c h
   |cons a l=>rw[c]at d;exact d
theorem rY:∀{ws},WR ws->WR (VC ws)
 |[],_=>WR.nil
 |w::ws,h=>by
  have a:=rY h.cons.2;unfold VC;split
  ·split
   ·exact WR.nil
   ·exact WR.mk h.cons.1 WR.nil
  ·exact WR.mk h.cons.1 a
theorem fC:∀{w ws},Canon (w::ws)->0<val (w::ws)
 |w,[],h=>by grind [Canon,val]
 |w,v::ws,h=>by
  have:=fC (w:=v) (ws:=ws) h
  grind [val]
theorem lC {w}{a}(h:Canon (w::a)):Canon a:=by
 cases a with
 |nil=>trivial
 |cons v a=>exact h
theorem oJ:∀{a b},WR a->WR b->Canon a->Canon b->val a=val b->a=b
 |[],[],_,_,_,_,_=>rfl
 |[],w::ws,_,_,_,hb,h=>by grind [fC,val]
 |w::ws,[],_,_,ha,_,h=>by grind [fC,val]
 |x::xs,y::ys,da,db,ha,hb,h=>by
  simp only[val]at h;have c:=da.cons.1;have d:=db.cons.1;have e1:x=y:=by omega
  have e2:val xs=val ys:=by omega
  rw[e1,oJ da.cons.2 db.cons.2 (lC ha) (lC hb) e2]
def Xe (n:Nat):P':=if h:n=0 then[]else n%4294967296::Xe (n / 4294967296)
termination_by n
decreasing_by omega
theorem Vc:Xe 0=[]:=by unfold Xe;simp
theorem UZ {n}(h:n≠0):Xe n=n%4294967296::Xe (n / 4294967296):=by
 rw[Xe];simp[h]
theorem Xn (n):val (Xe n)=n:=by
 induction n using Nat.strongRecOn with
 |ind n a=>
  grind [Vc,UZ,val]
theorem Xr (n):WR (Xe n):=by
 induction n using Nat.strongRecOn with
 |ind n a=>
  grind [Vc,WR.nil,UZ,WR.mk]
theorem WO (n):Canon (Xe n):=by
 induction n using Nat.strongRecOn with
 |ind n a=>
  grind [Vc,UZ,Canon]
theorem E5 {a}(c:WR a)(b:Canon a){n}(d:val a=n):a=Xe n:=
 by grind [oJ,Xr,WO,Xn]
theorem Te {a}(b:WR a){n}(c:val a=n):VC a=Xe n:=
 by grind [E5,rY,iK,rO]
theorem PZ:∀a b,val (a++b)=val a+4294967296^a.length*val b
 |[],b=>by simp[val]
 |w::a,b=>by
  simp only[ZD,val,PZ a b,Zj,ZI]
  grind
theorem Vd:∀{ws},WR ws->val ws<4294967296^ws.length
 |[],_=>by simp[val]
 |w::ws,h=>by
  have:=Vd h.cons.2;have:=h.cons.1
  grind [val]
theorem Uj (n):val (List.replicate n 0)=0:=by
 induction n with
 |zero=>rfl
 |succ n a=>grind [val]
theorem TZ:∀{ws} {p w x},ws[p]? =some x->val (ws.set p w)+x*4294967296^p=val ws+w*4294967296^p
 |[],_,_,_,h=>by simp at h
 |v::ws,0,w,x,h=>by grind [val]
 |v::ws,p+1,w,x,h=>by
  have:=TZ (ws:=ws) (p:=p) (w:=w) (x:=x) (by simpa using h)
  grind [val]
theorem WR.set {a}(h:WR a)(p){w}(b:w<4294967296):WR (a.set p w):=by
 intro x c;rcases List.mem_or_eq_of_mem_set c with h1|h1
 ·exact h x h1
 ·subst h1;exact b
theorem WR.get {a:P'}(h:WR a){p w:Nat}(b:a[p]? =some w):w<4294967296:=h w (Zh b)
theorem WR.replicate (n):WR (List.replicate n 0):=by
 intro x a;grind
theorem OQ {a:P'}{p w:Nat}(h:a[p]? =some w):val (a.drop p)=w+4294967296*val (a.drop (p+1)):=by
 obtain⟨b,rfl⟩:=Zg.1 h;rw[Z0 b];rfl
theorem VQ {a:P'}{p w:Nat}(h:a[p]? =some w):val (a.take (p+1))=val (a.take p)+w*4294967296^p:=by
 obtain⟨b,rfl⟩:=Zg.1 h;rw[List.take_add_one,PZ,Zd b];simp only[Option.toList_some,val,Z4,Nat.mul_zero,ZU]
 grind
theorem dR:∀a w,VC (a++[w])=if w=0 then VC a else a++[w]
 |[],w=>by simp[VC]
 |x::a,w=>by
  have b:=dR a w;by_cases h:w=0
  ·grind [VC]
  simp_all [VC]
theorem mZ {a:P'}{n w:Nat}(h:a[n]? =some w):a.take (n+1)=a.take n++[w]:=by grind [List.take_add_one]
theorem OS:∀a,∃m,m<=a.length/\VC a=a.take m
 |[]=>⟨0,by simp,rfl⟩
 |w::a=>by
  obtain⟨m,c,b⟩:=OS a;unfold VC;split
  ·split
   ·simp_all
   ·exact⟨1,by simp,by simp⟩
  ·rw[b];exact⟨m+1,by simp;omega,by simp⟩
theorem bM (a):(VC a).length<=a.length:=by
 obtain⟨m,b,c⟩:=OS a
 grind
theorem gN (a):VC a=a.take (VC a).length:=by
 obtain⟨m,b,c⟩:=OS a
 grind
def dg:Nat->Nat->P'
 |0,_=>[]
 |n+1,v=>v%4294967296::dg n (v / 4294967296)
theorem Wh:∀n v,(dg n v).length=n
 |0,_=>rfl
 |n+1,v=>by simp[dg,Wh n]
theorem lh:∀n v,WR (dg n v)
 |0,_=>WR.nil
 |n+1,v=>WR.mk (by omega) (lh n _)
theorem o0:∀{n v},v<4294967296^n->val (dg n v)=v
 |0,v,h=>by simp_all [dg,val]
 |n+1,v,h=>by
  simp only[dg,val];rw[o0 (Yc (by omega))];omega
theorem Iv:∀{r},WR r->r=dg r.length (val r)
 |[],_=>rfl
 |w::r,h=>by
  have:=h.cons.1;simp only[Zj,dg,val];rw[show(w+4294967296*val r)%4294967296=w by omega,show(w+4294967296*val r) / 4294967296=val r by omega,<-Iv h.cons.2]
theorem SD {n v}(h:v<4294967296^n):VC (dg n v)=Xe v:=Te (lh n v) (o0 h)
theorem Sd {r}{n v}(a:WR r)(b:r.length=n)(c:val r=v):r=dg n v:=by grind [Iv]
theorem VP {m n}(h:m<=n):4294967296^m<=4294967296^n:=Z5 (by decide) h
theorem PT:∀{ws},Canon ws->0<ws.length->4294967296^(ws.length-1)<=val ws
 |[],_,h=>by simp at h
 |[w],h,_=>by simp only[Canon]at h;simp only[val,Zj,Zr,Yb,Nat.sub_self,Nat.pow_zero];omega
 |w::v::ws,h,_=>by
  have:=PT (ws:=v::ws) h (by simp)
  grind [val]
theorem VF {n k}(h:n<4294967296^k):(Xe n).length<=k:=by
 rcases Z8 k (Xe n).length with hk|hk
 ·have a:=PT (WO n) (by omega)
  grind [Xn,Zy,VP]
 ·exact hk
theorem SN (n):n<4294967296^(Xe n).length:=by grind [Vd,Xr,Xn]
theorem XR {m n}(h:m<=n):(Xe m).length<=(Xe n).length:=VF (Z2 h (SN n))
theorem U0 (m n):(Xe (m*n)).length<=(Xe m).length+(Xe n).length:=
 by simp_all [VF,Ye,Nat.mul_lt_mul'',SN]
theorem U1 (m n):(Xe (m+n)).length<=(Xe m).length+(Xe n).length+1:=by
 have a:=ZO (SN m) (VP (Nat.le_add_right _ (Xe n).length));have b:=ZO (SN n) (VP (Nat.le_add_left _ (Xe m).length));exact VF (by rw[ZI];omega)
theorem dQ (a:P')(i:Nat):val (a.take (i+1))=val (a.take i)+a[i]?.getD 0*4294967296^i:=by grind [Ze,VQ]
abbrev Tm:=Int×P'
def WS:P'->P'->Int
 |a::as1,b::bs=>if a<b then .negSucc 0 else if b<a then .ofNat 1 else WS as1 bs
 |_,_=>.ofNat 0
def Xg (m n:P'):P':=List.zipWith (·+ ·) m n
theorem Qj:∀m,WS m m=.ofNat 0
 |[]=>rfl
 |a::m=>by simp only[WS,Zx,if_false];exact Qj m
theorem Rn:∀{m n},m.length=n.length->WS m n=.ofNat 0->m=n
 |[],[],_,_=>rfl
 |[],_::_,h,_=>by simp at h
 |_::_,[],h,_=>by simp at h
 |a::m,b::n,h,hc=>by
  simp only[WS]at hc;split at hc
  ·cases hc
  ·split at hc
   ·simp at hc
   ·rw[Rn (by simpa using h) hc,show a=b by omega]
theorem VZ:∀m n,WS m n=.ofNat 1\/WS m n=.negSucc 0\/WS m n=.ofNat 0
 |[],[]=>.inr (.inr rfl)
 |[],_::_=>.inr (.inr rfl)
 |_::_,[]=>.inr (.inr rfl)
 |a::m,b::n=>by
  simp only[WS];split
  ·exact .inr (.inl rfl)
  ·split
   ·exact .inl rfl
   ·exact VZ m n
def pair:List Tm->(P'->Int)->Int
 |[],_=>0
 |t::ts,φ=>t.1*φ t.2+pair ts φ
theorem xe {U V T W p q D}(z:0<p)(b:W*p<=V)(c:V<(W+1)*p)(e:T*p<=U)(f:U<(T+1)*p)(x:D*p<=V)(i:q<=D)(g:U<V*(D+1))
  (d:q*W<=T) (a:D<=q\/T<(q+1)*W):U / V<=q/\q<=U / V+1:=by
 have y:0<V:=by
  grind
 constructor
 ·rcases a with a|a
  ·have :U / V<D+1:=Yc g;omega
  ·have w:U<(q+1)*V:=by
    have j:(T+1)*p<=((q+1)*W)*p:=Zm p a;have l:((q+1)*W)*p=(q+1)*(W*p):=Yn ..;have m:(q+1)*(W*p)<=(q+1)*V:=ZE _ b;omega
   have :U / V<q+1:=Yc (by grind);omega
 ·rcases Z8 (U / V+1) q with h|h
  ·exfalso;have n:U<(U / V+1)*V:=by
    simp_all [Nat.lt_mul_div_succ,ZT]
   have o:(U / V+1)*V<=(q-1)*V:=Zm V (Nat.le_sub_one_of_lt h);have r:q*W*p<=T*p:=Zm p d;have s:q*V<=q*((W+1)*p):=ZE q (Nat.le_of_lt c);have t:q*((W+1)*p)=q*W*p+q*p:=by grind
   have u:q*p<=D*p:=Zm p i;have v:(q-1)*V+V=q*V:=by
    obtain⟨k,rfl⟩:∃k,q=k+1:=⟨q-1,(Nat.sub_add_cancel (Zy (Nat.succ_le_succ (Zw _)) h)).symm⟩
    grind
   omega
  ·exact h
theorem Rm:∀m n v,dg (m+n) v=dg m v++dg n (v / 4294967296^m)
 |0,n,v=>by simp[dg]
 |m+1,n,v=>by
  rw[show m+1+n=(m+n)+1 by omega];simp only[dg,ZD,Rm m n,YG,ZI]
  grind
theorem qI:∀n,dg n 0=List.replicate n 0
 |0=>rfl
 |n+1=>by simp[dg,qI n,List.replicate_succ]
theorem xH:∀n v,dg n (v%4294967296^n)=dg n v
 |0,_=>rfl
 |n+1,v=>by
  simp only[dg];have a:v%4294967296^(n+1)%4294967296=v%4294967296:=by
   simp_all [ZI]
  have b:v%4294967296^(n+1) / 4294967296=(v / 4294967296)%4294967296^n:=by
   grind [Nat.mod_mul_right_div_self]
  rw[a,b,xH n]
theorem Gj {m n v}(h:m<=n):(dg n v).take m=dg m v:=by
 obtain⟨k,rfl⟩:=Nat.exists_eq_add_of_le h
 grind [Rm,Wh]
theorem HN {m n v}(h:m<=n):(dg n v).drop m=dg (n-m) (v / 4294967296^m):=by
 obtain⟨k,rfl⟩:=Nat.exists_eq_add_of_le h
 grind [Rm,Wh]
theorem eU {n v i}(h:i<n):(dg n v)[i]? =some (v / 4294967296^i%4294967296):=by
 have a:=HN (m:=i) (n:=n) (v:=v) (by omega);obtain⟨k,b⟩:∃k,n-i=k+1:=⟨n-i-1,by omega⟩;rw[b,dg]at a;have:=congrArg (·[0]?) a;simpa using this
def vp (V n:Nat):Prop:=4294967296^n<=2*V/\V<4294967296^n
abbrev Qm:=Rat×P'
def X8:List Qm->List Qm->List Qm
 |[],us=>us
 |ts,[]=>ts
 |t::ts,u::us=>
  if WS t.2 u.2=.ofNat 1 then t::X8 ts (u::us)
  else if WS t.2 u.2=.negSucc 0 then u::X8 (t::ts) us
  else if t.1+u.1=0 then X8 ts us else(t.1+u.1,t.2)::X8 ts us
termination_by ts us=>ts.length+us.length
theorem X5 (a):X8 [] a=a:=by unfold X8;rfl
theorem W6 (a):X8 a []=a:=by cases a<;>(unfold X8;rfl)
theorem Ro (t u)(a b):X8 (t::a) (u::b)=if WS t.2 u.2=.ofNat 1 then t::X8 a (u::b)
  else if WS t.2 u.2=.negSucc 0 then u::X8 (t::a) b
  else if t.1+u.1=0 then X8 a b else(t.1+u.1,t.2)::X8 a b:=by
 rw[X8]
def XZ:List Qm->(P'->Rat)->Rat
 |[],_=>0
 |t::ts,φ=>t.1*φ t.2+XZ ts φ
def Q8 (ts:List Qm):Prop:=∀t∈ts,t.2.length=8
theorem Q8.tail {t}{a}(h:Q8 (t::a)):Q8 a:=fun x b=>h x (Za _ b)
theorem Q8.head {t}{a}(h:Q8 (t::a)):t.2.length=8:=h t (Zc ..)
theorem VG (f:P'->Rat):∀n c d,c.length+d.length<=n->Q8 c->Q8 d->XZ (X8 c d) f=XZ c f+XZ d f
 |_,[],d,_,_,_=>by rw[X5];simp only[XZ];grind
 |_,t::c,[],_,_,_=>by rw[W6];simp only[XZ];grind
 |0,t::c,u::d,h,_,_=>by simp at h
 |n+1,t::c,u::d,h,h1,h2=>by
  simp only[Zj]at h;rw[Ro];split
  ·simp only[XZ,VG f n c (u::d) (by simp;omega) h1.tail h2];grind
  ·split
   ·simp only[XZ,VG f n (t::c) d (by simp;omega) h1 h2.tail];grind
   ·rename_i a b;have e:WS t.2 u.2=.ofNat 0:=by
     rcases VZ t.2 u.2 with q|q|q
     ·exact absurd q a
     ·exact absurd q b
     ·exact q
    have e2:=Rn (by rw[h1.head,h2.head]) e;have g:=VG f n c d (by omega) h1.tail h2.tail;split
    ·rename_i z;simp only[XZ,g];rw[<-e2];have :t.1*f t.2+u.1*f t.2=0:=by rw[<-Rat.add_mul,z,Rat.zero_mul]
     grind
    ·simp only[XZ,g];rw[<-e2,Rat.add_mul];grind
def XD (z:Rat)(m:P')(ts:List Qm):List Qm:=ts.map fun t=>(z*t.1,Xg m t.2)
def X2 (z:Rat)(ts:List Qm):List Qm:=ts.map fun t=>(z*t.1,t.2)
def WE (ts:List Qm):List Qm:=X2 (-1) ts
theorem Ux (z)(m)(b:P'->Rat):∀a,XZ (XD z m a) b=z*XZ a fun k=>b (Xg m k)
 |[]=>by simp[XD,XZ]
 |t::a=>by
  have c:=Ux z m b a;unfold XD at c;simp only[XD,Zt,XZ,c]
  grind
theorem N3 (z)(b:P'->Rat):∀a,XZ (X2 z a) b=z*XZ a b
 |[]=>by simp[X2,XZ]
 |t::a=>by
  have c:=N3 z b a;unfold X2 at c;simp only[X2,Zt,XZ,c]
  grind
theorem T4 (b:P'->Rat)(a):XZ (WE a) b= -XZ a b:=by
 unfold WE;rw[N3];grind
def Wy (acc:List Qm):List Qm->List Qm->List Qm
 |[],_=>acc
 |t::ts,us=>Wy (X8 acc (XD t.1 t.2 us)) ts us
theorem Uy {b ψ:P'->Rat}:∀{a},(∀t∈a,b t.2=ψ t.2)->XZ a b=XZ a ψ
 |[],_=>rfl
 |t::a,h=>by
  simp only[XZ];rw[h t (by simp),Uy fun x c=>h x (Za _ c)]
theorem pS (b c:P'->Rat):∀a,(XZ a fun m=>b m+c m)=XZ a b+XZ a c
 |[]=>by simp only[XZ];grind
 |t::a=>by simp only[XZ,pS b c a];grind
theorem cq (z)(b:P'->Rat):∀a,(XZ a fun m=>z*b m)=z*XZ a b
 |[]=>by simp[XZ]
 |t::a=>by simp only[XZ,cq z b a];grind
theorem SJ:∀a,(XZ a fun _=>0)=0
 |[]=>rfl
 |t::a=>by simp only[XZ,SJ a];grind
theorem jx (c:P'->P'->Rat):∀b a,(XZ b fun m=>XZ a fun k=>c m k)=XZ a fun k=>XZ b fun m=>c m k
 |[],a=>by simp only[XZ,SJ]
 |t::b,a=>by
  simp only[XZ,jx c b a];rw[<-cq,<-pS]
structure Ph (ts:List Qm):Prop where
 nz:∀t∈ts,t.1≠0
 pw:ts.Pairwise fun t u=>WS t.2 u.2=.ofNat 1
theorem Ph.tail {t}{a}(h:Ph (t::a)):Ph a:=⟨fun x b=>h.nz x (Za _ b),(Zu.1 h.pw).2⟩
theorem Ph.nil:Ph []:=⟨(fun _ h=>by cases h),.nil⟩
theorem Ph.cons {t}{b}(h0:t.1≠0)(h:Ph b)(c:∀u∈b,WS t.2 u.2=.ofNat 1):Ph (t::b):=
 ⟨fun x a=>by rcases Zk.1 a with rfl|a;exact h0;exact h.nz x a,Zu.2 ⟨c,h.pw⟩⟩
def TD (ts:List Qm)(m:P'):Rat:=XZ ts fun k=>if k=m then 1 else 0
theorem du (m):TD [] m=0:=rfl
theorem PM (t)(a)(m):TD (t::a) m=(if t.2=m then t.1 else 0)+TD a m:=by
 unfold TD;simp only[XZ];split<;>grind
theorem QC {a}{m}(h:∀t∈a,t.2≠m):TD a m=0:=by
 unfold TD;rw[Uy (ψ:=fun _=>0) fun t b=>if_neg (h t b),SJ]
theorem qU {m n}(h:WS m n=.ofNat 1):m≠n:=by
 intro e;subst e;rw[Qj]at h;simp at h
theorem Ph.UU:∀{a},Ph a->∀t∈a,TD a t.2=t.1
 |u::a,h,t,ht=>by
  rw[PM];rcases Zk.1 ht with rfl|ht
  ·rw[if_pos rfl,QC fun x b e=>qU ((Zu.1 h.pw).1 x b) e.symm];grind
  ·rw[if_neg (qU ((Zu.1 h.pw).1 t ht)),h.tail.UU t ht];grind
theorem Ph.mem_iff {b}(h:Ph b)(m):TD b m≠0↔∃t∈b,t.2=m:=by
 constructor
 ·intro c;by_cases e:∃t∈b,t.2=m
  ·exact e
  ·exact absurd (QC fun t a d=>e ⟨t,a,d⟩) c
 ·rintro ⟨t,a,rfl⟩;rw[h.UU t a];exact h.nz t a
theorem lA:∀{m n},WS m n=.ofNat 1->WS n m=.negSucc 0
 |[],[],h=>by simp[WS]at h
 |[],_::_,h=>by simp[WS]at h
 |_::_,[],h=>by simp[WS]at h
 |a::m,b::n,h=>by
  simp only[WS]at h⊢;split at h
  ·cases h
  ·split at h
   ·rename_i d c;rw[if_pos c]
   ·rename_i d c;rw[if_neg c,if_neg d];exact lA h
theorem Ph.ext:∀{a b},Ph a->Ph b->(∀m,TD a m=TD b m)->a=b
 |[],[],_,_,_=>rfl
 |[],u::b,_,h2,h=>by
  have:=h2.UU u (Zc ..);rw[<-h,du]at this;exact absurd this.symm (h2.nz u (Zc ..))
 |t::a,[],h1,_,h=>by
  have:=h1.UU t (Zc ..);rw[h,du]at this;exact absurd this.symm (h1.nz t (Zc ..))
 |t::a,u::b,h1,h2,h=>by
  obtain⟨x,e,j⟩:=(h2.mem_iff t.2).1 (by rw[<-h,h1.UU t (Zc ..)];exact h1.nz t (Zc ..));obtain⟨y,f,k⟩:=(h1.mem_iff u.2).1 (by rw[h,h2.UU u (Zc ..)];exact h2.nz u (Zc ..));have i:t.2=u.2:=by
   rcases Zk.1 e with rfl|e
   ·exact j.symm
   ·rcases Zk.1 f with rfl|f
    ·exact k
    ·exfalso;have g:=(Zu.1 h2.pw).1 x e;have c:=(Zu.1 h1.pw).1 y f;rw[j]at g;rw[k]at c;rw[lA g]at c;cases c
  have l:t.1=u.1:=by rw[<-h1.UU t (Zc ..),<-h2.UU u (Zc ..),h,i]
  have d:t=u:=Prod.ext l i;subst d;rw[Ph.ext h1.tail h2.tail fun m=>by
   have:=h m;rw[PM,PM]at this;exact Rat.add_left_cancel _ this]
theorem T6 {a b:Rat}(c:a≠0)(d:b≠0):a*b≠0:=by grind
theorem oE:∀m n,WS n m=.negSucc 0↔WS m n=.ofNat 1
 |[],[]=>by simp[WS]
 |[],_::_=>by simp[WS]
 |_::_,[]=>by simp[WS]
 |a::m,b::n=>by
  simp only[WS];by_cases c:b<a
  ·omega
  ·by_cases d:a<b
   ·simp[c,d]
   ·simp only[c,d,if_false];exact oE m n
theorem bz:∀{l m n},l.length=m.length->m.length=n.length->WS l m=.ofNat 1->WS m n=.ofNat 1->WS l n=.ofNat 1
 |[],_,_,_,_,h,_=>by simp[WS]at h
 |_::_,[],_,h,_,_,_=>by simp at h
 |_::_,_::_,[],_,h,_,_=>by simp at h
 |a::l,b::m,c::n,h1,h2,h3,h4=>by
  simp only[WS]at h3 h4⊢;by_cases d:a<b
  ·simp[d]at h3
  ·by_cases e:b<c
   ·simp[e]at h4
   ·by_cases f:b<a
    ·omega
    ·by_cases g:c<b
     ·omega
     ·simp only[d,f,if_false]at h3;simp only[e,g,if_false]at h4;have :¬a<c:=by omega
      have :¬c<a:=by omega
      simp only[*,if_false];exact bz (by simpa using h1) (by simpa using h2) h3 h4
theorem WC:∀n {a b} {x},a.length+b.length<=n->Q8 a->Q8 b->x∈X8 a b->(∃t∈a,t.2=x.2)\/∃u∈b,u.2=x.2
 |_,[],b,x,_,_,_,h=>by grind [X5]
 |_,t::a,[],x,_,_,_,h=>by grind [W6]
 |0,_::_,_::_,_,h,_,_,_=>by simp at h
 |n+1,t::a,u::b,x,hn,h1,h2,h=>by
  have f:Q8 a:=fun x d=>h1 x (Za _ d)
  have g:Q8 b:=fun x d=>h2 x (Za _ d)
  simp only[Zj]at hn;rw[Ro]at h;split at h
  ·rcases Zk.1 h with rfl|h
   ·grind
   ·rcases WC n (by simp;omega) f h2 h with⟨y,c,e⟩|⟨y,c,e⟩
    ·grind
    grind
  ·split at h
   ·rcases Zk.1 h with rfl|h
    ·grind
    ·rcases WC n (by simp;omega) h1 g h with⟨y,c,e⟩|⟨y,c,e⟩
     ·grind
     grind
   ·have key:x∈X8 a b->(∃y∈t::a,y.2=x.2)\/∃y∈u::b,y.2=x.2:=by
     intro h;rcases WC n (by omega) f g h with⟨y,c,e⟩|⟨y,c,e⟩
     ·grind
     grind
    grind
theorem R3 {d f}(b:Q8 d)(c:Q8 f):Q8 (X8 d f):=by
 intro x g;rcases WC _ (Zf _) b c g with⟨y,a,e⟩|⟨y,a,e⟩
 ·rw[<-e];exact b y a
 ·rw[<-e];exact c y a
theorem di:∀n {g i},g.length+i.length<=n->Q8 g->Q8 i->Ph g->Ph i->Ph (X8 g i)
 |_,[],i,_,_,_,_,h=>by grind [X5]
 |_,t::g,[],_,_,_,h,_=>by grind [W6]
 |0,_::_,_::_,h,_,_,_,_=>by simp at h
 |n+1,t::g,u::i,hn,h1,h2,d1,d2=>by
  have j:Q8 g:=fun x d=>h1 x (Za _ d)
  have k:Q8 i:=fun x d=>h2 x (Za _ d)
  have m:=h1 t (Zc ..);have o:=h2 u (Zc ..);have p:=(Zu.1 d1.pw).1;have q:=(Zu.1 d2.pw).1;simp only[Zj]at hn;rw[Ro];split
  ·rename_i e;refine Ph.cons (d1.nz t (Zc ..)) (di n (by simp;omega) j h2 d1.tail d2) fun x d=> ?_
   rcases WC _ (Zf _) j h2 d with⟨y,c,f⟩|⟨y,c,f⟩
   ·grind
   ·rw[<-f];rcases Zk.1 c with rfl|c
    ·exact e
    ·exact bz (by omega) (by rw[o,k y c]) e (q y c)
  ·split
   ·rename_i e;have e:=(oE u.2 t.2).1 e;refine Ph.cons (d2.nz u (Zc ..)) (di n (by simp;omega) h1 k d1 d2.tail) fun x d=> ?_
    rcases WC _ (Zf _) h1 k d with⟨y,c,f⟩|⟨y,c,f⟩
    ·rw[<-f];rcases Zk.1 c with rfl|c
     ·exact e
     ·exact bz (by omega) (by rw[m,j y c]) e (p y c)
    grind
   ·rename_i a b;have e:WS t.2 u.2=.ofNat 0:=by
     grind [VZ]
    have e2:=Rn (by omega) e;have l:=di n (by omega) j k d1.tail d2.tail;split
    ·exact l
    ·rename_i z;refine Ph.cons z l fun x d=> ?_
     rcases WC _ (Zf _) j k d with⟨y,c,f⟩|⟨y,c,f⟩
     ·grind
     grind
theorem Ch {m n}(a:m.length=8)(b:n.length=8):(Xg m n).length=8:=by simp[Xg,a,b]
theorem bC:∀m a b,m.length=a.length->a.length=b.length->WS (Xg m a) (Xg m b)=WS a b
 |[],[],[],_,_=>rfl
 |[],_::_,_,h,_=>by simp at h
 |_::_,[],_,h,_=>by simp at h
 |_,[],_::_,_,h=>by simp at h
 |_,_::_,[],_,h=>by simp at h
 |x::m,y::a,z::b,h1,h2=>by
  have c:=bC m a b (by simpa using h1) (by simpa using h2)
  simp_all [Xg,WS]
theorem Ud {z}{m}(c:m.length=8){b}(h:Q8 b):Q8 (XD z m b):=by
 intro x a;simp only[XD,ZM]at a;obtain⟨t,d,rfl⟩:=a;exact Ch c (h t d)
theorem fy {z:Rat}(d:z≠0){m:P'}(f:m.length=8):∀{a:List Qm},Q8 a->Ph a->Ph (XD z m a)
 |[],_,_=>Ph.nil
 |t::a,hw,h=>by
  have e:Q8 a:=fun x b=>hw x (Za _ b)
  have g:=fy d f e h.tail;refine Ph.cons (t:=(z*t.1,Xg m t.2)) (T6 d (h.nz t (Zc ..))) g fun x b=> ?_
  simp only[ZM]at b;obtain⟨u,c,rfl⟩:=b;have i:=hw t (Zc ..);have j:=e u c;simp only[];rw[bC m t.2 u.2 (by omega) (by omega)];exact(Zu.1 h.pw).1 u c
theorem pK:∀{b c a},Q8 b->Q8 c->Q8 a->Q8 (Wy a b c)
 |[],_,_,_,_,h=>h
 |t::b,c,a,h1,h2,h3=>by
  simp only[Wy];exact pK (fun x d=>h1 x (Za _ d)) h2 (R3 h3 (Ud (h1 t (Zc ..)) h2))
theorem ik:∀{b c a},Q8 b->Q8 c->Q8 a->(∀t∈b,t.1≠0)->Ph c->Ph a->Ph (Wy a b c)
 |[],_,_,_,_,_,_,_,h=>h
 |t::b,c,a,h1,h2,h3,h4,h5,h6=>by
  simp only[Wy];have l:=h1 t (Zc ..);exact ik (fun x d=>h1 x (Za _ d)) h2 (R3 h3 (Ud l h2)) (fun x d=>h4 x (Za _ d)) h5 (di _ (Zf _) h3 (Ud l h2) h6 (fy (h4 t (Zc ..)) l h2 h5))
theorem cr (c:P'->Rat):∀{d b a},Q8 d->Q8 b->Q8 a->XZ (Wy a d b) c=XZ a c+XZ d fun m=>XZ b fun k=>c (Xg m k)
 |[],b,a,_,_,_=>by grind [Wy,XZ]
 |t::d,b,a,h1,h2,h3=>by
  have l:=h1 t (Zc ..);simp only[Wy];rw[cr c (fun x e=>h1 x (Za _ e)) h2 (R3 h3 (Ud l h2)),VG c _ _ _ (Zf _) h3 (Ud l h2),Ux];simp only[XZ];grind
theorem vl {e f}:∀{m n},(∀x∈m,x<=e)->(∀x∈n,x<=f)->∀x∈Xg m n,x<=e+f
 |[],_,_,_,x,hx=>by simp[Xg]at hx
 |_::_,[],_,_,x,hx=>by simp[Xg]at hx
 |a::m,b::n,h1,h2,x,hx=>by
  unfold Xg at hx;rw[Zz]at hx;rcases Zk.1 hx with rfl|hx
  ·grind [Zc]
  ·exact vl (fun y c=>h1 y (Za _ c)) (fun y c=>h2 y (Za _ c)) x hx
theorem UY:∀n a b,a.length+b.length<=n->(X8 a b).length<=a.length+b.length
 |_,[],b,_=>by rw[X5];simp
 |_,t::a,[],_=>by rw[W6];simp
 |0,t::a,u::b,h=>by simp at h
 |n+1,t::a,u::b,h=>by
  simp only[Zj]at h;have c:=UY n a (u::b) (by simp;omega);have d:=UY n (t::a) b (by simp;omega);have e:=UY n a b (by omega)
  grind [Ro]
theorem Nb:∀c b a,(Wy a c b).length<=a.length+c.length*b.length
 |[],_,_=>by simp[Wy]
 |t::c,b,a=>by
  have d:=Nb c b (X8 a (XD t.1 t.2 b));have e:=UY _ a (XD t.1 t.2 b) (Zf _);have f:(XD t.1 t.2 b).length=b.length:=by simp[XD]
  simp only[Wy,Zj,ZX,Yf];omega
end Go.Ev
namespace Go
abbrev I':=List Ev.Qm
abbrev S':=List (List Ev.Qm)
