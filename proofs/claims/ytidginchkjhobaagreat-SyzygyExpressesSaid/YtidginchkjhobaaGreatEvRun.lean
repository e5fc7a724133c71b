/- The equations by which simp runs the interpreter over symbolic values (written by gen_evrun.py). -/
import Derived.Test.YtidginchkjhobaaGreatNum
set_option maxRecDepth 100000
namespace Go.Ev
def Xb (E:Xa)(K b:Nat)(ks:P')(c:XN):Nat->St->Option (Ex×St)
 |0,_=>none
 |k+1,s=>match XP E K b c s with
  |some (.normal,s)=>Xb E K b ks c k ⟨V8 s.T ks,s.H⟩
  |r=>r
theorem yU (E)(K b)(a)(c):∀k s,Nf (fun s=>XP E K b (.VS a c) s) k s=Xb E K b a c k ⟨V8 s.T a,s.H⟩
 |0,_=>rfl
 |k+1,s=>by
  have e:XP E K b (.VS a c) s=XP E K b c ⟨V8 s.T a,s.H⟩:=by simp only[XP,Qw]
  have d:=yU E K b a c k;simp only[Nf,Xb];rw[e];rcases XP E K b c ⟨V8 s.T a,s.H⟩with _|⟨_|_|_,s1⟩
  ·rfl
  ·exact d s1
  ·rfl
  ·rfl
theorem wN (E)(K b)(s)(a)(c):XP E K b (.loop (.VS a c)) s=Xb E K b a c K ⟨V8 s.T a,s.H⟩:=by
 simp only[XP];exact yU E K b a c K s
def xA (rs:List (Nat×Option (Bool×Nat)))(s:St):Option PV:=
 match Xw (WV s) rs with
 |some ds=>(match Xw (XX (Xj s.H)) ds with
  |some ps=>some (fT ps)
  |none=>none)
 |none=>none
theorem DD (E)(K b)(a:List (Nat×Option (Bool×Nat)))(c)(args):UN E K ⟨b,a,c⟩ args=(bif Nat.ble (args.map inj).length b then(match XP E K 0 c ⟨U9 (args.map inj) 0,[]⟩with |some (.normal,s)=>xA a s|some (.ret,s)=>xA a s|_=>none)else none):=by
 unfold UN QB;rw[NF];cases Nat.ble (args.map inj).length b with
 |false=>rfl
 |true=>
  simp only[cond_true];rcases XP E K 0 c ⟨U9 (args.map inj) 0,[]⟩with _|⟨_|_|_,s⟩
  ·rfl
  ·simp only[xA];cases Xw (WV s) a<;>rfl
  ·rfl
  ·simp only[xA];cases Xw (WV s) a<;>rfl
def Q7:List QK->Bool
 |[]=>true
 |f::fs=>f.wr.isEmpty&&Nat.beq f.lo f.hi&&Q7 fs
theorem fQ:∀{a},Q7 a=true->aA a
 |[],_=>trivial
 |f::a,h=>by
  simp only[Q7,Zs,List.isEmpty_iff]at h;exact⟨⟨h.1.1,Zl h.1.2⟩,fQ h.2⟩
theorem BO (E)(b)(a)(s):TK E b a s=(match Tt E b 0 a s with |some (s,fs)=>(if Q7 fs=true then some s else(if R9 fs=true then some s else none))|none=>none):=by
 unfold TK;rcases Tt E b 0 a s with _|⟨s1,fs⟩
 ·rfl
 ·show(bif R9 fs then some s1 else none)=(if Q7 fs=true then some s1 else(if R9 fs=true then some s1 else none));by_cases c:Q7 fs=true
  ·rw[if_pos c,HD (fQ c),cond_true]
  ·rw[if_neg c];cases R9 fs<;>rfl
theorem oa (n)(h)(l):XG n h (.p l)=some l:=by cases n<;>rfl
theorem nY (n)(h)(l):Vt n h (.p l)=[]:=by cases n<;>rfl
theorem H4 (a e d b)(h)(n)(y):Vs a e d b h n [.one (.p .Xp),.one y]=(match WH h y with |some (new,ids)=>(bif new.all (fun c=>Nat.beq c.length d)then W9 e d b n new ids else none)|none=>none):=by
 simp only[Vs];rfl
theorem H3 (a e g f)(h)(n id XW d)(y):Vs a e g f h n [.one (.own id XW 0 d),.one y]=(match WH h y with |some (new,ids)=>(bif new.all (fun c=>Nat.beq c.length g)then(match h id with |some b=>(bif Nat.beq b.ch.length d then TE a e g f id XW d b new ids else RQ a e g id XW d b new ids)|none=>none)else none)|none=>none):=by
 simp only[Vs];rfl
theorem Ei (b e:Type)(f:b->Option e)(x)(a):Xw f (x::a)=(match f x with |none=>none|some y=>(match Xw f a with |none=>none|some d=>some (y::d))):=by
 cases h:f x with
 |none=>simp only[Xw,h]
 |some y=>cases c:Xw f a<;>simp only[Xw,h,c]
abbrev Y2:Prop:=(∀(T:List (Nat×DV)),(U7 T none=(some true))/\(V8 T []=([])))/\
  (∀(T:List (Nat×DV)) (t:Nat) (w:Bool),U7 T (some (t,w))=(match Xi T t with |some (.one (.p (.bool b)))=>some (b==w)|some (.Wd [])=>some false|_=>none))/\
  (∀(α β:Type) (f:α->Option β),(Xw f []=(some []))/\(List.filterMap f []=([])))/\
  (∀(α β:Type) (f:α->Option β) (x:α) (xs:List α),Xw f (x::xs)=(match f x with |none=>none|some y=>(match Xw f xs with |none=>none|some ys=>some (y::ys))))/\
  (∀(T:List (Nat×DV)) (n:Nat),VB.eval T (.t n)=(Xi T n))/\
  (∀(T:List (Nat×DV)) (v:PV),VB.eval T (.c v)=(some (inj v)))/\
  (∀(l:PL),(inj (.one l)=(.one (.p l)))/\(qv (.one l)=(.one (.p l)))/\((PV.one l).scalar=(l.scalar))/\((PV.one l).NV=(l.scalar)))/\
  (∀(cs:N'),(inj (.agg cs)=(.agg (cs.map .p)))/\(qv (.agg cs)=(.agg (cs.map .p)))/\((PV.agg cs).scalar=(cs.all PL.scalar))/\((PV.agg cs).NV=(cs.all PL.scalar))/\(PL.scalar (.ref cs)=(false)))/\
  (∀(vs:List PV),(inj (.Wd vs)=(.Wd (vs.map qv)))/\((PV.Wd vs).scalar=(vs.all PV.NV)))/\
  (∀(t:Nat) (v:DV) (T:List (Nat×DV)) (n:Nat),Xi ((t,v)::T) n=(if t=n then some v else Xi T n))/\
  (∀(T:List (Nat×DV)) (k:Nat) (ks:P'),V8 T (k::ks)=(match Xi T k with |some v=>(k,v)::V8 T ks|none=>V8 T ks))/\
  (∀(T:List (Nat×DV)) (d:Nat) (v:DV),O2 T (some d) v=((d,v)::T))/\
  (∀(T:List (Nat×DV)) (v:DV),O2 T none v=(T))/\
  (∀(H:V'),(Uh H []=(H))/\(NI H []=(H)))/\
  (∀(H:V') (i:Nat) (x:Xx) (ws:List (Nat×Xx)),Uh H ((i,x)::ws)=(Uh (H.set i x) ws))/\
  (∀(H:V') (x:Xx) (xs:V'),NI H (x::xs)=(H++x::xs))/\
  (∀(H:V') (i:Nat),Xj H i=(H[i]?))/\
  (∀(E:Xa) (b:Nat) (vs:X') (h:HF) (n:Nat),(Wf E b (.move) vs h n=(ba vs))/\(Wf E b (.nilCheck) vs h n=(Re vs))/\(Wf E b (.pick) vs h n=(aZ vs))/\(Wf E b (.len) vs h n=(OE vs))/\(Wf E b (.max) vs h n=(Qt S6 vs))/\(Wf E b (.min) vs h n=(Qt (fun a b=>S6 b a) vs))/\(Wf E b (.Ng) vs h n=(TR h vs))/\(Wf E b (.slice3) vs h n=(Py vs))/\(Wf E b (.Sw) vs h n=(Rr E h vs)))/\
  (∀(E:Xa) (vs:X'),(XQ E (.move) vs=(false))/\(XQ E (.nilCheck) vs=(false))/\(XQ E (.pick) vs=(false))/\(XQ E (.len) vs=(false))/\(XQ E (.max) vs=(false))/\(XQ E (.min) vs=(false))/\(XQ E (.Ng) vs=(false))/\(XQ E (.slice3) vs=(false)))/\
  (∀(E:Xa),(Xm E (.move)=(false))/\(Xm E (.nilCheck)=(false))/\(Xm E (.pick)=(false))/\(Xm E (.len)=(false))/\(Xm E (.max)=(false))/\(Xm E (.min)=(false))/\(Xm E (.Ng)=(false))/\(Xm E (.slice3)=(false)))/\
  (∀(E:Xa) (b:Nat) (t:Nat) (vs:X') (h:HF) (n:Nat),Wf E b (.box t) vs h n=(cD t n vs))/\
  (∀(E:Xa) (t:Nat) (vs:X'),XQ E (.box t) vs=(false))/\
  (∀(E:Xa) (t:Nat),Xm E (.box t)=(false))/\
  (∀(E:Xa) (b:Nat) (t:Nat) (z:N') (vs:X') (h:HF) (n:Nat),Wf E b (.alloc t z) vs h n=(QR t z n vs))/\
  (∀(E:Xa) (t:Nat) (z:N') (vs:X'),XQ E (.alloc t z) vs=(false))/\
  (∀(E:Xa) (t:Nat) (z:N'),Xm E (.alloc t z)=(false))/\
  (∀(E:Xa) (b:Nat) (z:N') (pl:List (Nat×Nat)) (vs:X') (h:HF) (n:Nat),Wf E b (.build z pl) vs h n=(Oi z pl vs))/\
  (∀(E:Xa) (z:N') (pl:List (Nat×Nat)) (vs:X'),XQ E (.build z pl) vs=(false))/\
  (∀(E:Xa) (z:N') (pl:List (Nat×Nat)),Xm E (.build z pl)=(false))/\
  (∀(E:Xa) (b:Nat) (e:Nat) (z:N') (m:Nat) (pl:P') (vs:X') (h:HF) (n:Nat),Wf E b (.buildSlice e z m pl) vs h n=(Uf e z m pl n vs))/\
  (∀(E:Xa) (e:Nat) (z:N') (m:Nat) (pl:P') (vs:X'),XQ E (.buildSlice e z m pl) vs=(false))/\
  (∀(E:Xa) (e:Nat) (z:N') (m:Nat) (pl:P'),Xm E (.buildSlice e z m pl)=(false))/\
  (∀(E:Xa) (b:Nat) (a:Bool) (m:Nat) (vs:X') (h:HF) (n:Nat),Wf E b (.load a m) vs h n=(Of a m h vs))/\
  (∀(E:Xa) (a:Bool) (m:Nat) (vs:X'),XQ E (.load a m) vs=(false))/\
  (∀(E:Xa) (a:Bool) (m:Nat),Xm E (.load a m)=(false))/\
  (∀(E:Xa) (b:Nat) (m:Nat) (vs:X') (h:HF) (n:Nat),(Wf E b (.store m) vs h n=(QN b m h vs))/\(Wf E b (.fieldAddr m) vs h n=(UE m vs))/\(Wf E b (.Ov m) vs h n=(VX m h vs))/\(Wf E b (.extract m) vs h n=(Rf m vs))/\(Wf E b (.Eo m) vs h n=(bc m vs))/\(Wf E b (.copy m) vs h n=(Oh b m h vs)))/\
  (∀(E:Xa) (m:Nat) (vs:X'),(XQ E (.store m) vs=(false))/\(XQ E (.fieldAddr m) vs=(false))/\(XQ E (.Ov m) vs=(false))/\(XQ E (.extract m) vs=(false))/\(XQ E (.Eo m) vs=(false))/\(XQ E (.copy m) vs=(false)))/\
  (∀(E:Xa) (m:Nat),(Xm E (.store m)=(false))/\(Xm E (.fieldAddr m)=(false))/\(Xm E (.Ov m)=(false))/\(Xm E (.extract m)=(false))/\(Xm E (.Eo m)=(false))/\(Xm E (.copy m)=(false)))/\
  (∀(E:Xa) (b:Nat) (o:BinOp) (vs:X') (h:HF) (n:Nat),Wf E b (.bin o) vs h n=(jJ o vs))/\
  (∀(E:Xa) (o:BinOp) (vs:X'),XQ E (.bin o) vs=(false))/\
  (∀(E:Xa) (o:BinOp),Xm E (.bin o)=(false))/\
  (∀(E:Xa) (b:Nat) (q:Bool) (vs:X') (h:HF) (n:Nat),(Wf E b (.B8 q) vs h n=(be q vs))/\(Wf E b (.fD q) vs h n=(Uz q vs)))/\
  (∀(E:Xa) (q:Bool) (vs:X'),(XQ E (.B8 q) vs=(false))/\(XQ E (.fD q) vs=(false)))/\
  (∀(E:Xa) (q:Bool),(Xm E (.B8 q)=(false))/\(Xm E (.fD q)=(false)))/\
  (∀(E:Xa) (b:Nat) (q:Bool) (k:IntKind) (m:Nat) (vs:X') (h:HF) (n:Nat),Wf E b (.bE q k m) vs h n=(US q k m vs))/\
  (∀(E:Xa) (q:Bool) (k:IntKind) (m:Nat) (vs:X'),XQ E (.bE q k m) vs=(false))/\
  (∀(E:Xa) (q:Bool) (k:IntKind) (m:Nat),Xm E (.bE q k m)=(false))/\
  (∀(E:Xa) (b:Nat) (o:UnOp) (vs:X') (h:HF) (n:Nat),Wf E b (.un o) vs h n=(jI o vs))/\
  (∀(E:Xa) (o:UnOp) (vs:X'),XQ E (.un o) vs=(false))/\
  (∀(E:Xa) (o:UnOp),Xm E (.un o)=(false))/\
  (∀(E:Xa) (b:Nat) (k:IntKind) (vs:X') (h:HF) (n:Nat),Wf E b (.conv k) vs h n=(bd k vs))/\
  (∀(E:Xa) (k:IntKind) (vs:X'),XQ E (.conv k) vs=(false))/\
  (∀(E:Xa) (k:IntKind),Xm E (.conv k)=(false))/\
  (∀(E:Xa) (b:Nat) (m p:Nat) (vs:X') (h:HF) (n:Nat),Wf E b (.kx m p) vs h n=(RE m p vs))/\
  (∀(E:Xa) (m p:Nat) (vs:X'),XQ E (.kx m p) vs=(false))/\
  (∀(E:Xa) (m p:Nat),Xm E (.kx m p)=(false))/\
  (∀(E:Xa) (b:Nat) (m:Nat) (a:Bool) (p:Nat) (vs:X') (h:HF) (n:Nat),Wf E b (.ku m a p) vs h n=(SL m a p vs))/\
  (∀(E:Xa) (m:Nat) (a:Bool) (p:Nat) (vs:X'),XQ E (.ku m a p) vs=(false))/\
  (∀(E:Xa) (m:Nat) (a:Bool) (p:Nat),Xm E (.ku m a p)=(false))/\
  (∀(E:Xa) (b:Nat) (a:Bool) (m p:Nat) (vs:X') (h:HF) (n:Nat),Wf E b (.field a m p) vs h n=(Og a m p vs))/\
  (∀(E:Xa) (a:Bool) (m p:Nat) (vs:X'),XQ E (.field a m p) vs=(false))/\
  (∀(E:Xa) (a:Bool) (m p:Nat),Xm E (.field a m p)=(false))/\
  (∀(E:Xa) (b:Nat) (m:Nat) (lo hi:Bool) (vs:X') (h:HF) (n:Nat),Wf E b (.slice m lo hi) vs h n=(QO m lo hi h vs))/\
  (∀(E:Xa) (m:Nat) (lo hi:Bool) (vs:X'),XQ E (.slice m lo hi) vs=(false))/\
  (∀(E:Xa) (m:Nat) (lo hi:Bool),Xm E (.slice m lo hi)=(false))/\
  (∀(E:Xa) (b:Nat) (e m p:Nat) (vs:X') (h:HF) (n:Nat),Wf E b (.append e m p) vs h n=(Vs b e m p h n vs))/\
  (∀(E:Xa) (e m p:Nat) (vs:X'),XQ E (.append e m p) vs=(false))/\
  (∀(E:Xa) (e m p:Nat),Xm E (.append e m p)=(false))/\
  (∀(E:Xa) (b:Nat) (e:Nat) (z:N') (m:Nat) (vs:X') (h:HF) (n:Nat),Wf E b (.makeSlice e z m) vs h n=(UD e z m n vs))/\
  (∀(E:Xa) (e:Nat) (z:N') (m:Nat) (vs:X'),XQ E (.makeSlice e z m) vs=(false))/\
  (∀(E:Xa) (e:Nat) (z:N') (m:Nat),Xm E (.makeSlice e z m)=(false))/\
  (∀(E:Xa) (b:Nat) (m:Nat) (a:Bool) (vs:X') (h:HF) (n:Nat),Wf E b (.makeMap m a) vs h n=(Sj m a n vs))/\
  (∀(E:Xa) (m:Nat) (a:Bool) (vs:X'),XQ E (.makeMap m a) vs=(false))/\
  (∀(E:Xa) (m:Nat) (a:Bool),Xm E (.makeMap m a)=(false))/\
  (∀(E:Xa) (b:Nat) (m:Nat) (k:IntKind) (a:Bool) (z:N') (o:Bool) (vs:X') (h:HF) (n:Nat),Wf E b (.lookup m k a z o) vs h n=(Tl m k a z o h vs))/\
  (∀(E:Xa) (m:Nat) (k:IntKind) (a:Bool) (z:N') (o:Bool) (vs:X'),XQ E (.lookup m k a z o) vs=(false))/\
  (∀(E:Xa) (m:Nat) (k:IntKind) (a:Bool) (z:N') (o:Bool),Xm E (.lookup m k a z o)=(false))/\
  (∀(E:Xa) (b:Nat) (m:Nat) (k:IntKind) (a:Bool) (p:Nat) (vs:X') (h:HF) (n:Nat),Wf E b (.mapUpdate m k a p) vs h n=(VK m k a p h vs))/\
  (∀(E:Xa) (m:Nat) (k:IntKind) (a:Bool) (p:Nat) (vs:X'),XQ E (.mapUpdate m k a p) vs=(false))/\
  (∀(E:Xa) (m:Nat) (k:IntKind) (a:Bool) (p:Nat),Xm E (.mapUpdate m k a p)=(false))/\
  (∀(E:Xa) (b:Nat) (f:Nat) (vs:X') (h:HF) (n:Nat),(Wf E b (.makeFunc f) vs h n=(Tk f vs))/\(Wf E b (.call f) vs h n=(VL E h f vs)))/\
  (∀(E:Xa) (f:Nat) (vs:X'),(XQ E (.makeFunc f) vs=(false))/\(XQ E (.call f) vs=(ak E f)))/\
  (∀(E:Xa) (f:Nat),(Xm E (.makeFunc f)=(false))/\(Xm E (.call f)=(TB E f))/\(TB E f=(match E.mode f with | .heap=>true|_=>false))/\(ak E f=(match E.mode f with | .heap=>true| .fresh=>true|_=>false)))/\
  (∀(E:Xa) (b:Nat) (z:N') (vs:X') (h:HF) (n:Nat),Wf E b (.clear z) vs h n=(QQ b z h vs))/\
  (∀(E:Xa) (z:N') (vs:X'),XQ E (.clear z) vs=(false))/\
  (∀(E:Xa) (z:N'),Xm E (.clear z)=(false))/\
  (∀(base sz:Nat) (h:HF) (id XW off len:Nat) (y:DL),Oh base sz h [.one (.own id XW off len),.one y]=(match h id with |some b=>(match WH h y with |some (new,ids)=>Nw base sz id XW off len b new ids|none=>none)|none=>none))/\
  (∀(x:DV),ba [x]=(some ⟨x,[],[],[]⟩))/\
  (∀(c:Bool) (x y:DV),aZ [.one (.p (.bool c)),x,y]=(some ⟨bif c then x else y,[],[],[]⟩))/\
  (∀(t n:Nat) (l:DL),cD t n [.one l]=(some ⟨.one (.ptr n 0 0 0),[⟨false,0,1,[[l]],false,t⟩],[],[]⟩))/\
  (∀(t n:Nat) (cs:Y'),cD t n [.agg cs]=(some ⟨.one (.ptr n 0 0 0),[⟨false,0,cs.length,[cs],false,t⟩],[],[]⟩))/\
  (∀(t:Nat) (z:N') (n:Nat),QR t z n []=(some ⟨.one (.ptr n 0 0 0),[⟨false,0,z.length,[z.map .p],false,t⟩],[],[]⟩))/\
  (∀(o:BinOp) (k k2:IntKind) (x y:Int),jJ o [.one (.p (.int k x)),.one (.p (.int k2 y))]=(match WK o k k2 x y with |some d=>some ⟨.one d,[],[],[]⟩|none=>none))/\
  (∀(k:IntKind) (x y:Int),(WK .add k k x y=(S5 k (Xd k (x+y))))/\(WK .sub k k x y=(S5 k (Xd k (x-y))))/\(WK .mul k k x y=(S5 k (Xd k (x*y))))/\(WK .eql k k x y=(SS (Nr x y)))/\(WK .neq k k x y=(SS (!Nr x y)))/\(WK .lss k k x y=(SS (S6 x y)))/\(WK .leq k k x y=(SS (yY x y)))/\(WK .gtr k k x y=(SS (S6 y x)))/\(WK .geq k k x y=(SS (yY y x)))/\(WK .quo k k x y=(U5 k x y))/\(WK .rem k k x y=(TN k x y))/\(WK .or k k x y=(S5 k (U6 k (Nat.lor (W4 k x) (W4 k y)))))/\(WK .and k k x y=(S5 k (U6 k (Nat.land (W4 k x) (W4 k y))))))/\
  (∀(k k2:IntKind) (x y:Int),(WK .shl k k2 x y=(bD k x y))/\(WK .shr k k2 x y=(Pc k x y)))/\
  (∀(k:IntKind) (n:Int),(S5 k n=(some (.p (.int k n))))/\(jI .neg [.one (.p (.int k n))]=(some ⟨.one (.p (.int k (Xd k (0-n)))),[],[],[]⟩))/\(PL.scalar (.int k n)=(true)))/\
  (∀(c:Bool),(SS c=(some (.p (.bool c))))/\(jI .not [.one (.p (.bool c))]=(some ⟨.one (.p (.bool (!c))),[],[],[]⟩)))/\
  (∀(k k2:IntKind) (n:Int),bd k [.one (.p (.int k2 n))]=(some ⟨.one (.p (.int k (Xd k n))),[],[],[]⟩))/\
  (∀(q x y:Bool),be q [.one (.p (.bool x)),.one (.p (.bool y))]=(some ⟨.one (.p (.bool ((x==y)!=q))),[],[],[]⟩))/\
  ((OE [.one (.p .Xp)]=(some ⟨.one (.p (.int .i64 (.ofNat 0))),[],[],[]⟩))/\(Q7 []=(true))/\(cF=(.c (.one (.bool false))))/\(cT=(.c (.one (.bool true))))/\(PL.scalar (.Xp)=(true))/\(PL.scalar (.Qx)=(true))/\((!true)=(false))/\((!false)=(true))/\((true==true)=(true))/\((false==false)=(true))/\((true==false)=(false))/\((false==true)=(false))/\((true !=true)=(false))/\((false !=false)=(false))/\((true !=false)=(true))/\((false !=true)=(true)))/\
  (∀(es:Z'),(OE [.one (.p (.Xl es))]=(some ⟨.one (.p (.int .i64 (.ofNat es.length))),[],[],[]⟩))/\(PL.scalar (.Xl es)=(false)))/\
  (∀(i v o l:Nat),OE [.one (.own i v o l)]=(some ⟨.one (.p (.int .i64 (.ofNat l))),[],[],[]⟩))/\
  (∀(m:Nat) (cs:N'),UE m [.one (.p (.ref cs))]=(bif Nat.ble m cs.length then some ⟨.one (.p (.ref (cs.drop m))),[],[],[]⟩else none))/\
  (∀(m i v j o:Nat),UE m [.one (.ptr i v j o)]=(some ⟨.one (.ptr i v j (o+m)),[],[],[]⟩))/\
  (∀(m:Nat) (vs:X'),Rf m [.Wd vs]=(match vs[m]? with |some v=>some ⟨v,[],[],[]⟩|none=>none))/\
  (∀(sz:Nat) (h:HF) (es:Z') (k:IntKind) (i:Nat),VX sz h [.one (.p (.Xl es)),.one (.p (.int k (.ofNat i)))]=(match es[i]? with |some c=>(bif Nat.beq c.length sz then some ⟨.one (.p (.ref c)),[],[],[]⟩else none)|none=>none))/\
  (∀(sz:Nat) (h:HF) (id XW off len:Nat) (k:IntKind) (i:Nat),VX sz h [.one (.own id XW off len),.one (.p (.int k (.ofNat i)))]=(match h id with |some b=>(bif Nat.beq b.sz sz&&Nat.blt i len then some ⟨.one (.ptr id XW (off+i) 0),[],[],[id]⟩else none)|none=>none))/\
  (∀(m p:Nat) (cs:N') (k:IntKind) (i:Nat),RE m p [.one (.p (.ref cs)),.one (.p (.int k (.ofNat i)))]=(bif Nat.blt i m&&Nat.ble (i*p) cs.length then some ⟨.one (.p (.ref (cs.drop (i*p)))),[],[],[]⟩else none))/\
  (∀(m p id XW j o:Nat) (k:IntKind) (i:Nat),RE m p [.one (.ptr id XW j o),.one (.p (.int k (.ofNat i)))]=(bif Nat.blt i m then some ⟨.one (.ptr id XW j (o+i*p)),[],[],[]⟩else none))/\
  (∀(a:Bool) (m:Nat) (h:HF) (cs:N'),Of a m h [.one (.p (.ref cs))]=(match Sr a m (cs.map .p)with |some v=>some ⟨v,[],[],[]⟩|none=>none))/\
  (∀(a:Bool) (m:Nat) (h:HF) (id XW i off:Nat),Of a m h [.one (.ptr id XW i off)]=(match QY h id XW i with |some c=>(bif Nat.ble off c.length then(match Sr a m (c.drop off)with |some v=>some ⟨v,[],[],[id]⟩|none=>none)else none)|none=>none))/\
  (∀(h:HF) (id XW i:Nat),QY h id XW i=(match h id with |some b=>(bif Nat.beq b.XW XW&& !b.mp then b.ch[i]? else none)|none=>none))/\
  (∀(m:Nat) (c:DL) (cs:Y'),Sr false m (c::cs)=(some (.one c)))/\
  (∀(m:Nat) (cs:Y'),Sr true m cs=(bif Nat.ble m cs.length then some (.agg (cs.take m))else none))/\
  (∀(b m:Nat) (h:HF) (id XW i off:Nat) (x:DV),QN b m h [.one (.ptr id XW i off),x]=(match h id with |some k=>(match x.cells with |some cs=>P4 b m id XW i off k cs|none=>none)|none=>none))/\
  (∀(l:DL),(DV.one l).cells=(some [l]))/\
  (∀(cs:Y'),((DV.agg cs).cells=(some cs))/\(OF cs [] []=(some cs)))/\
  (∀(base sz id XW i off:Nat) (b:Xx) (cs:Y'),P4 base sz id XW i off b cs=(bif Nat.beq b.XW XW&& !b.mp&& !b.fz&&Nat.beq cs.length sz&&(Nat.ble base id||Wi cs)then(match b.ch[i]? with |some c=>(bif Nat.ble (off+sz) c.length then some ⟨.Wd [],[],[(id,{b with ch:=b.ch.set i (c.take off++cs++c.drop (off+sz))})],[id]⟩else none)|none=>none)else none))/\
  (∀(e:Nat) (z:N') (m n:Nat) (k k2:IntKind) (l c:Nat),UD e z m n [.one (.p (.int k (.ofNat l))),.one (.p (.int k2 (.ofNat c)))]=(bif Nat.ble l c&&Nat.ble (m*c) lim&&Nat.ble c 9223372036854775807 then some ⟨.one (.own n 0 0 l),[⟨false,0,z.length,List.replicate l (z.map .p),false,e⟩],[],[]⟩else none))/\
  (∀(i:Nat) (rd wr af:P') (lo hi:Nat) (fs:List QK),Q7 (⟨i,rd,wr,af,lo,hi⟩::fs)=(wr.isEmpty&&Nat.beq lo hi&&Q7 fs))/\
  (∀(n:Nat),(cI n=(.int .i64 (.ofNat n)))/\(cN n=(.int .i64 (.negSucc n)))/\(cW n=(.int .u32 (.ofNat n)))/\(cQ n=(.int .u64 (.ofNat n)))/\(cB n=(.int .u8 (.ofNat n)))/\(cC n=(.c (.one (.int .i64 (.ofNat n)))))/\(U9 [] n=([]))/\(Nat.beq n n=(true))/\((n==n)=(true))/\(Nat.ble 0 n=(true))/\(n+0=(n))/\(0+n=(n)))/\
  (∀(d:Nat) (op:dK) (a:List VB),oP d op a=(⟨some d,op,a,none,[]⟩))/\
  (∀(d:Nat) (op:dK) (a:List VB) (af:P'),oA d op a af=(⟨some d,op,a,none,af⟩))/\
  (∀(d:Nat) (op:dK) (a:List VB) (g:Nat) (b:Bool) (af:P'),oG d op a g b af=(⟨some d,op,a,some (g,b),af⟩))/\
  (∀(op:dK) (a:List VB) (af:P'),oN op a af=(⟨none,op,a,none,af⟩))/\
  (∀(d t:Nat),mV d t=(⟨some d,.move,[.t t],none,[]⟩))/\
  (∀(d t:Nat) (af:P'),mA d t af=(⟨some d,.move,[.t t],none,af⟩))/\
  (∀(d:Nat) (c:VB),mC d c=(⟨some d,.move,[c],none,[]⟩))/\
  (∀(l:O'),(rG l=(.region false l))/\(rD l=(.region true l)))/\
  (∀(x y:XN),sQ x y=(.seq x y))/\
  (∀(α:Type) (a b:α) (h:a=b),Q a h=(b))/\
  (∀(rs:List (Nat×Option (Bool×Nat))) (s:St),xA rs s=(match Xw (WV s) rs with |some ds=>(match Xw (XX (Xj s.H)) ds with |some ps=>some (fT ps)|none=>none)|none=>none))/\
  (∀(v:DV) (vs:X') (n:Nat),U9 (v::vs) n=((n,v)::U9 vs (n+1)))/\
  (∀(s:St) (t:Nat),WV s (t,none)=(Xi s.T t))/\
  (∀(s:St) (t:Nat) (a:Bool) (sz:Nat),WV s (t,some (a,sz))=(match Xi s.T t with |some (.one (.ptr id XW i off))=>(match s.H[id]? with |some b=>(bif Nat.beq b.XW XW&& !b.mp then(match b.ch[i]? with |some c=>(bif a then(bif Nat.ble (off+sz) c.length then some (.agg ((c.drop off).take sz))else none)else(match c.drop off with |d::_=>some (.one d)|[]=>none))|none=>none)else none)|none=>none)|_=>none))/\
  (∀(v:PV),fT [v]=(v))/\
  (∀(u v:PV) (r:List PV),fT (u::v::r)=(.Wd (u::v::r)))/\
  (∀(h:HF) (l:PL),XX h (.one (.p l))=(some (.one l)))/\
  (∀(h:HF) (id XW off len:Nat),(XX h (.one (.own id XW off len))=(match XG 6 h (.own id XW off len)with |some l=>some (.one l)|none=>none))/\(WH h (.own id XW off len)=(match h id with |some b=>(bif Nat.beq b.XW XW&& !b.mp&&Nat.ble (off+len) b.ch.length then some ((b.ch.drop off).take len,[id])else none)|none=>none)))/\
  (∀(h:HF) (cs:Y'),(XX h (.agg cs)=(match Xw (XG 6 h) cs with |some cs=>some (.agg cs)|none=>none))/\(Rj h (.agg cs)=(cs.flatMap (Vt 6 h))))/\
  (∀(n:Nat) (h:HF) (l:PL),(XG n h (.p l)=(some l))/\(Vt n h (.p l)=([])))/\
  (∀(n:Nat) (h:HF) (id XW off len:Nat),(XG (n+1) h (.own id XW off len)=(match h id with |some b=>(bif Nat.beq b.XW XW&& !b.mp&&Nat.ble (off+len) b.ch.length then(match Xw (Xw (XG n h)) ((b.ch.drop off).take len)with |some es=>some (.Xl es)|none=>none)else none)|none=>none))/\(Vt (n+1) h (.own id XW off len)=(match h id with |some b=>id::((b.ch.drop off).take len).flatMap (fun c=>c.flatMap (Vt n h))|none=>[])))/\
  (∀(h:HF) (l:DL),Rj h (.one l)=(Vt 6 h l))/\
  (∀(E:Xa) (h:HF) (f:Nat) (vs:X'),VL E h f vs=(match E.mode f with | .pure=>(match Xw (XX h) vs with |some ps=>(match E.pure f ps with |some r=>(bif(vs.flatMap (Rj h)).isEmpty||r.scalar then some ⟨inj r,[],[],vs.flatMap (Rj h)⟩else some ⟨inj r,[],(vs.flatMap (Rj h)).filterMap (fun id=>(h id).map fun b=>(id,{b with fz:=true})),vs.flatMap (Rj h)⟩)|none=>none)|none=>none)| .heap=>none|_=>WX E h f vs))/\
  (∀(b:Bool),(PL.scalar (.bool b)=(true))/\((true&&b)=(b))/\((false&&b)=(false))/\((b&&true)=(b))/\((b&&false)=(false))/\((true||b)=(true))/\((false||b)=(b))/\((b||true)=(true))/\((b||false)=(b)))/\
  (∀(s:P'),PL.scalar (.str s)=(true))/\
  (∀(a:Bool) (m p:Nat) (cs:Y'),Og a m p [.agg cs]=(bif Nat.ble p cs.length then(match Sr a m (cs.drop p)with |some v=>some ⟨v,[],[],[]⟩|none=>none)else none))/\
  (∀(z:N') (pl:List (Nat×Nat)) (vs:X'),Oi z pl vs=(match OF (z.map .p) pl vs with |some cs=>some ⟨.agg cs,[],[],[]⟩|none=>none))/\
  (∀(cs:Y') (off sz:Nat) (ps:List (Nat×Nat)) (v:DV) (vs:X'),OF cs ((off,sz)::ps) (v::vs)=(match v.cells with |some ds=>(bif Nat.beq ds.length sz&&Nat.ble (off+sz) cs.length then OF (cs.take off++ds++cs.drop (off+sz)) ps vs else none)|none=>none))/\
  (∀(e:Nat) (z:N') (m:Nat) (pl:P') (n:Nat) (vs:X'),Uf e z m pl n vs=(match OG z.length (List.replicate m (z.map .p)) pl vs with |some cs=>some ⟨.one (.own n 0 0 m),[⟨false,0,z.length,cs,false,e⟩],[],[]⟩|none=>none))/\
  (∀(sz:Nat) (cs:K'),OG sz cs [] []=(some cs))/\
  (∀(sz:Nat) (cs:K') (i:Nat) (ps:P') (v:DV) (vs:X'),OG sz cs (i::ps) (v::vs)=(match v.cells with |some ds=>(bif Nat.beq ds.length sz&&Nat.blt i cs.length then OG sz (cs.set i ds) ps vs else none)|none=>none))/\
  (∀(sz:Nat) (lo hi:Bool) (h:HF) (vs:X'),QO sz lo hi h vs=(match Ub lo hi vs with |some (x,l,u)=>(match WN sz h x l u with |some (d,rd)=>some ⟨.one d,[],[],rd⟩|none=>none)|none=>none))/\
  (∀(x:DL),Ub false false [.one x]=(some (x,0,none)))/\
  (∀(x:DL) (k:IntKind) (a:Nat),(Ub true false [.one x,.one (.p (.int k (.ofNat a)))]=(some (x,a,none)))/\(Ub false true [.one x,.one (.p (.int k (.ofNat a)))]=(some (x,0,some a))))/\
  (∀(x:DL) (k k2:IntKind) (a c:Nat),Ub true true [.one x,.one (.p (.int k (.ofNat a))),.one (.p (.int k2 (.ofNat c)))]=(some (x,a,some c)))/\
  (∀(sz:Nat) (h:HF) (es:Z') (l:Nat),WN sz h (.p (.Xl es)) l none=(bif Nat.ble l es.length&&Nat.ble es.length es.length&&QF sz es[l]? then some (.p (.Xl ((es.take es.length).drop l)),[])else none))/\
  (∀(sz:Nat) (h:HF) (es:Z') (l u:Nat),WN sz h (.p (.Xl es)) l (some u)=(bif Nat.ble l u&&Nat.ble u es.length&&QF sz es[l]? then some (.p (.Xl ((es.take u).drop l)),[])else none))/\
  (∀(sz:Nat) (h:HF) (l:Nat),WN sz h (.p .Xp) l none=(bif Nat.beq l 0&&Nat.beq 0 0 then some (.p .Xp,[])else none))/\
  (∀(sz:Nat) (h:HF) (l u:Nat),WN sz h (.p .Xp) l (some u)=(bif Nat.beq l 0&&Nat.beq u 0 then some (.p .Xp,[])else none))/\
  (∀(sz:Nat) (c:N'),QF sz (some c)=(Nat.beq c.length sz))/\
  (∀(sz:Nat),QF sz none=(true))/\
  (∀(base e sz by_:Nat) (h:HF) (n:Nat) (y:DL),Vs base e sz by_ h n [.one (.p .Xp),.one y]=(match WH h y with |some (new,ids)=>(bif new.all (fun c=>Nat.beq c.length sz)then W9 e sz by_ n new ids else none)|none=>none))/\
  (∀(base e sz by_:Nat) (h:HF) (n id XW len:Nat) (y:DL),Vs base e sz by_ h n [.one (.own id XW 0 len),.one y]=(match WH h y with |some (new,ids)=>(bif new.all (fun c=>Nat.beq c.length sz)then(match h id with |some b=>(bif Nat.beq b.ch.length len then TE base e sz by_ id XW len b new ids else RQ base e sz id XW len b new ids)|none=>none)else none)|none=>none))/\
  (∀(base e sz by_ id XW len:Nat) (b:Xx) (new:K') (ids:P'),TE base e sz by_ id XW len b new ids=(bif Nat.beq b.XW XW&& !b.mp&& !b.fz&&Nat.beq b.ch.length len&&Nat.beq b.sz sz&&Nat.beq b.ty e&&Nat.ble base id&&Nat.ble ((len+new.length)*by_) lim&&Nat.ble (len+new.length) 9223372036854775807 then some ⟨.one (.own id (XW+1) 0 (len+new.length)),[],[(id,{b with XW:=XW+1,ch:=b.ch++new})],id::ids⟩else none))/\
  (∀(h:HF),WH h (.p .Xp)=(some ([],[])))/\
  (∀(h:HF) (es:Z'),WH h (.p (.Xl es))=(some (es.map (·.map .p),[])))/\
  (∀(α:Type) (x y:α),(cond true x y=(x))/\(cond false x y=(y)))/\
  (∀(α β:Type) (f:α->β),List.map f []=([]))/\
  (∀(α β:Type) (f:α->β) (x:α) (l:List α),List.map f (x::l)=(f x::List.map f l))/\
  (∀(α:Type),(([]:List α).length=(0))/\(([]:List α).isEmpty=(true)))/\
  (∀(α:Type) (x:α) (l:List α),((x::l).length=(l.length+1))/\((x::l)[0]? =(some x))/\((x::l).isEmpty=(false)))/\
  (∀(α:Type) (x:α) (l:List α) (n:Nat),((x::l)[n+1]? =(l[n]?))/\((x::l).take (n+1)=(x::l.take n))/\((x::l).drop (n+1)=(l.drop n)))/\
  (∀(α:Type) (x y:α) (l:List α),(x::l).set 0 y=(y::l))/\
  (∀(α:Type) (x y:α) (l:List α) (n:Nat),(x::l).set (n+1) y=(x::l.set n y))/\
  (∀(α:Type) (x:α) (l m:List α),x::l++m=(x::(l++m)))/\
  (∀(α:Type) (l:List α),([]++l=(l))/\(l++[]=(l))/\(l.take 0=([]))/\(l.drop 0=(l)))/\
  (∀(α:Type) (n:Nat),(([]:List α).take n=([]))/\(([]:List α).drop n=([])))/\
  (∀(α:Type) (p:α->Bool),List.all [] p=(true))/\
  (∀(α:Type) (p:α->Bool) (x:α) (l:List α),List.all (x::l) p=((p x&&List.all l p)))/\
  (∀(α β:Type) (f:α->List β),List.flatMap f []=([]))/\
  (∀(α β:Type) (f:α->List β) (x:α) (l:List α),List.flatMap f (x::l)=(f x++List.flatMap f l))/\
  (∀(α:Type) (x:α),(List.replicate 0 x=([]))/\(List.replicate 1 x=([x]))/\(List.replicate 2 x=([x,x]))/\(List.replicate 3 x=([x,x,x])))/\
  (∀(α β:Type) (f:α->Option β) (x:α) (l:List α),List.filterMap f (x::l)=((match f x with |none=>List.filterMap f l|some b=>b::List.filterMap f l)))/\
  (∀(α β:Type) (f:α->β) (x:α),Option.map f (some x)=(some (f x)))
theorem TP:Y2:=by
 refine⟨?_,?_,?_,?_,?_,?_,?_,?_,?_,?_,?_,?_,?_,?_,?_,?_,?_,?_,?_,?_,?_,?_,?_,?_,?_,?_,?_,?_,?_,?_,?_,?_,?_,?_,?_,?_,?_,?_,?_,?_,?_,?_,?_,?_,?_,?_,?_,?_,?_,?_,?_,?_,?_,?_,?_,?_,?_,?_,?_,?_,?_,?_,?_,?_,?_,?_,?_,?_,?_,?_,?_,?_,?_,?_,?_,?_,?_,?_,?_,?_,?_,?_,?_,?_,?_,?_,?_,?_,?_,?_,?_,?_,?_,?_,?_,?_,?_,?_,?_,?_,?_,?_,?_,?_,?_,?_,?_,?_,?_,?_,?_,?_,?_,?_,?_,?_,?_,?_,?_,?_,?_,?_,?_,?_,?_,?_,?_,?_,?_,?_,?_,?_,?_,?_,?_,?_,?_,?_,?_,?_,?_,?_,?_,?_,?_,?_,?_,?_,?_,?_,?_,?_,?_,?_,?_,?_,?_,?_,?_,?_,?_,?_,?_,?_,?_,?_,?_,?_,?_,?_,?_,?_,?_,?_,?_,?_,?_,?_,?_,?_,?_,?_,?_,?_,?_⟩<;>intros<;>(repeat' apply And.intro)<;>first |rfl|exact U2 ..|exact Ei ..|exact oa ..|exact nY ..|exact H4 ..|exact H3 ..|(simp only[XP,Qw];done)|(simp only[Vz,TA,PH,bL,dN,lH];rfl)|(rename_i k _ _;cases k<;>rfl)|(rename_i b;cases b<;>rfl)|exact Yw _|exact beq_self_eq_true _|exact ZJ _|simp
abbrev YM (cE:Xa->Nat->Nat->XN->St->Option (Ex×St))(lK:Xa->Nat->Nat->P'->XN->Nat->St->Option (Ex×St))(oD:Xa->Nat->Nat->O'->St->Option (St×List QK))(oS:Xa->Nat->O'->St->Option St)(oR:Xa->Nat->Bool->Xz->St->Option (St×P'×P'))(dS:Xa->Nat->O'->O'->St->Option St)(dD:Xa->Nat->O'->St->Option St):Prop:=(∀(E:Xa) (K b:Nat) (s:St),(cE E K b .skip s=(some (.normal,s)))/\(cE E K b .ret s=(some (.ret,s))))/\
  (∀(E:Xa) (K b:Nat) (s:St) (ops:O'),(cE E K b (.region false ops) s=(match oS E b ops s with |some s=>some (.normal,s)|none=>none))/\(cE E K b (.region true ops) s=(match dD E b ops s with |some s=>some (.normal,s)|none=>none)))/\
  (∀(E:Xa) (K b:Nat) (s:St) (p u:O'),cE E K b (.R2 p u) s=(match dS E b p u s with |some s=>some (.normal,s)|none=>none))/\
  (∀(E:Xa) (K b:Nat) (s:St) (x y:XN),cE E K b (.seq x y) s=(match cE E K b x s with |some (.normal,s)=>cE E K b y s|r=>r))/\
  (∀(E:Xa) (K b:Nat) (s:St) (c:VB) (x y:XN),cE E K b (.cond c x y) s=(match c.eval s.T with |some (.one (.p (.bool true)))=>cE E K b x s|some (.one (.p (.bool false)))=>cE E K b y s|_=>none))/\
  (∀(E:Xa) (K b:Nat) (s:St) (i:Nat) (x:XN),cE E K b (.block i x) s=(match cE E K b x s with |some (.exit j,s)=>bif j==i then some (.normal,s)else some (.exit j,s)|r=>r))/\
  (∀(E:Xa) (K b:Nat) (s:St) (ks:P') (x:XN),(cE E K b (.loop (.VS ks x)) s=(lK E K b ks x K ⟨V8 s.T ks,s.H⟩))/\(cE E K b (.VS ks x) s=(cE E K b x ⟨V8 s.T ks,s.H⟩)))/\
  (∀(E:Xa) (K b:Nat) (s:St) (x:XN),cE E K b (.scope x) s=(cE E K b x s))/\
  (∀(E:Xa) (K b:Nat) (s:St) (i:Nat),cE E K b (.exit i) s=(some (.exit i,s)))/\
  (∀(E:Xa) (b:Nat) (s:St),oS E b [] s=(some s))/\
  (∀(E:Xa) (b:Nat) (s:St) (o:Xz) (os:O'),oS E b (o::os) s=(match oR E b true o s with |some (s,_,_)=>oS E b os s|none=>none))/\
  (∀(E:Xa) (b:Nat) (hp:Bool) (s:St) (dst:Option Nat) (op:dK) (args:List VB) (g:Option (Nat×Bool)) (af:P'),oR E b hp ⟨dst,op,args,g,af⟩ s=(match U7 s.T g with |none=>none|some false=>some (⟨O2 s.T dst (.Wd []),s.H⟩,[],[])|some true=>(match Xw (VB.eval s.T) args with |none=>none|some vs=>bif hp&&XQ E op vs then PG E ⟨dst,op,args,g,af⟩ vs s else(match Wf E b op vs (Xj s.H) s.H.length with |some r=>some (⟨O2 s.T dst r.val,NI (Uh s.H r.wr) r.al⟩,r.rd,r.wr.map (·.1))|none=>none))))/\
  (∀(E:Xa) (b:Nat) (ops:O') (s:St),dD E b ops s=(match oD E b 0 ops s with |some (s,fs)=>(if Q7 fs=true then some s else(if R9 fs=true then some s else none))|none=>none))/\
  (∀(E:Xa) (b:Nat) (p u:O') (s:St),dS E b p u s=(match dD E b p s with |some s=>oS E b u s|none=>none))/\
  (∀(E:Xa) (b i:Nat) (s:St),oD E b i [] s=(some (s,[])))/\
  (∀(E:Xa) (b i:Nat) (o:Xz) (os:O') (s:St),oD E b i (o::os) s=(bif Xm E o.op&& !(os.isEmpty&&SX o.after i)then none else(match oR E b (Xm E o.op) o s with |some (s1,rd,wr)=>(match oD E b (i+1) os s1 with |some (s2,fs)=>some (s2,⟨i,rd,wr,o.after,s.H.length,s1.H.length⟩::fs)|none=>none)|none=>none)))/\
  (∀(E:Xa) (K nt:Nat) (rs:List (Nat×Option (Bool×Nat))) (c:XN) (args:List PV),UN E K ⟨nt,rs,c⟩ args=(bif Nat.ble (args.map inj).length nt then(match cE E K 0 c ⟨U9 (args.map inj) 0,[]⟩with |some (.normal,s)=>xA rs s|some (.ret,s)=>xA rs s|_=>none)else none))
theorem Y3:YM XP Xb Tt U8 Vz Ox TK:=by
 refine⟨?_,?_,?_,?_,?_,?_,?_,?_,?_,?_,?_,?_,?_,?_,?_,?_,?_⟩<;>intros<;>(repeat' apply And.intro)<;>first |rfl|exact BO ..|exact wN ..|exact DD ..|(simp only[XP,Qw];done)|(simp only[Vz,TA,PH,bL,dN,lH];rfl)|(rename_i k _ _;cases k<;>rfl)|(rename_i b;cases b<;>rfl)|exact Yw _|exact beq_self_eq_true _|exact ZJ _|simp
theorem Xo:YM XP Xb Tt U8 Vz Ox TK/\Y2:=⟨Y3,TP⟩
theorem VD:(∀a,R9 a=a.all fun f=>(f.wr.isEmpty&&Nat.beq f.lo f.hi)||a.all fun g=>Nn f g)/\
  (∀f g,Nn f g=(Nat.beq f.i g.i||(f.wr.all (fun id=> !(g.wr.contains id)&&(!(g.rd.contains id)||f.after.contains g.i))&&g.rd.all (fun id=> !(Nat.ble f.lo id&&Nat.ble (id+1) f.hi)||g.after.contains f.i)&&g.wr.all (fun id=> !(Nat.ble f.lo id&&Nat.ble (id+1) f.hi)||g.after.contains f.i))))/\
  (∀(x y:Nat) (l:P'),(y::l).contains x=(decide (x=y)||l.contains x))/\(∀x:Nat,([]:P').contains x=false)/\
  (∀(G:V') (y:Xx),(G++[y])[G.length]? =some y)/\(∀(G:V') (x y:Xx),(G++[x,y])[G.length+1]? =some y)/\(∀(G:V') (x y:Xx),(G++[x,y])[G.length]? =some x)/\
  (∀(G:V') (x y:Xx),(G++[x])++[y]=G++[x,y])/\(∀(G:V') (x:Xx),(G++[x]).length=G.length+1)/\(∀(G:V') (x y:Xx),(G++[x,y]).length=G.length+2)/\
  (∀(G:V') (x y:Xx),(G++[x]).set G.length y=G++[y])/\(∀(G:V') (x y z:Xx),(G++[x,y]).set (G.length+1) z=G++[x,z])/\(∀(G:V') (x y z:Xx),(G++[x,y]).set G.length z=G++[z,y])/\
  (∀n:Nat,(n=n+1)=False)/\(∀n:Nat,(n+1=n)=False)/\(∀n:Nat,(n+1<=n)=False)/\(∀n:Nat,(n<=n+1)=True)/\(∀n:Nat,(n=n+2)=False)/\(∀n:Nat,(n+2=n)=False)/\(∀n:Nat,(n+2<=n)=False)/\(∀n:Nat,(n<=n+2)=True)/\(∀n:Nat,(n=n+3)=False)/\(∀n:Nat,(n+3=n)=False)/\(∀n:Nat,(n+3<=n)=False)/\(∀n:Nat,(n<=n+3)=True)/\(∀n:Nat,(n=n+4)=False)/\(∀n:Nat,(n+4=n)=False)/\(∀n:Nat,(n+4<=n)=False)/\(∀n:Nat,(n<=n+4)=True)/\(∀n:Nat,(n<=n)=True):=by
 refine⟨fun _=>rfl,fun _ _=>rfl,fun x y l=> ?_,fun _=>rfl,?_,?_,?_,?_,?_,?_,?_,?_,?_,?_,?_,?_,?_,?_,?_,?_,?_,?_,?_,?_,?_,?_,?_,?_,?_,?_⟩
 ·simp only[List.contains_cons];congr 1
 all_goals intros;first |(simp;done)|(simp only[eq_iff_iff,iff_false,iff_true];omega)
theorem wrap_i64 {a}(h:a<9223372036854775808):Xd .i64 (.ofNat a)=.ofNat a:=rL h
theorem wrap_u64 (a):Xd .u64 (.ofNat a)=.ofNat (a%18446744073709551616):=rfl
theorem wrap_u32 (a):Xd .u32 (.ofNat a)=.ofNat (a%4294967296):=rfl
theorem iP {a b}(h:b<=a):(Int.ofNat a-Int.ofNat b)=Int.ofNat (a-b):=by simp only[Yx];omega
theorem X9 {a b}(h:b<=a)(c:a<9223372036854775808):Xd .i64 (.ofNat a-.ofNat b)=.ofNat (a-b):=by
 rw[iP h];exact rL (by omega)
theorem sub_neg {a b}(h:a<b):(Int.ofNat a-Int.ofNat b)=Int.negSucc (b-a-1):=by
 simp only[Yx,Int.negSucc_eq];omega
theorem NQ {a b}(h:b<=18446744073709551616):Xd .u64 (.ofNat a-.ofNat b)=.ofNat ((a+(18446744073709551616-b))%18446744073709551616):=by
 by_cases c:b<=a
 ·rw[iP c,wrap_u64];congr 1;omega
 ·rw[sub_neg (by omega)];show U6 .u64 (W4 .u64 (.negSucc (b-a-1)))=_;have :W4 .u64 (.negSucc (b-a-1))=(a+(18446744073709551616-b))%18446744073709551616:=by
   simp only[W4,QL];omega
  rw[this];rfl
theorem dB (a b):Nat.blt a b=decide (a<b):=by
 by_cases h:a<b
 ·rw[aP h];simp[h]
 ·rw[LU (by omega)];simp[h]
theorem zI (a b):Nat.ble a b=decide (a<=b):=by
 by_cases h:a<=b
 ·rw[PU h];simp[h]
 ·rw[Iz (by omega)];simp[h]
theorem im (a b):Nat.beq a b=decide (a=b):=by
 by_cases h:a=b
 ·rw[zJ h];simp[h]
 ·rw[LV h];simp[h]
theorem bk (a b):S6 (.ofNat a) (.ofNat b)=decide (a<b):=dB a b
theorem E8 (a b):Nr (.ofNat a) (.ofNat b)=decide (a=b):=im a b
theorem JG (a b):yY (.ofNat a) (.ofNat b)=decide (a<=b):=by
 unfold yY;rw[bk];by_cases h:a<=b
 ·simp[h,Nat.not_lt.2 h]
 ·simp[h,Nat.lt_of_not_le h]
def pI:Nat->Int
 |0=>.negSucc 0
 |n+1=>.ofNat n
theorem UR {n}(h:n<9223372036854775808):Xd .i64 (.ofNat n-.ofNat 1)=pI n:=by
 cases n with
 |zero=>rfl
 |succ n=>exact X9 (by omega) h
theorem Xs:(∀a b,S6 (.ofNat a) (.ofNat b)=decide (a<b))/\(∀a b,S6 (.ofNat a) (.negSucc b)=false)/\(∀a b,S6 (.negSucc a) (.ofNat b)=true)/\
  (∀a b,yY (.ofNat a) (.ofNat b)=decide (a<=b))/\(∀a b,yY (.ofNat a) (.negSucc b)=false)/\(∀a b,yY (.negSucc a) (.ofNat b)=true)/\
  (∀a b,Nr (.ofNat a) (.ofNat b)=decide (a=b))/\(∀a b,Nr (.ofNat a) (.negSucc b)=false)/\(∀a b,Nr (.negSucc a) (.ofNat b)=false)/\(∀a b,Nr (.negSucc a) (.negSucc b)=decide (a=b))/\
  (∀a b,Nat.blt a b=decide (a<b))/\(∀a b,Nat.ble a b=decide (a<=b))/\(∀a b,Nat.beq a b=decide (a=b))/\
  (∀a b:Nat,(Int.ofNat a+Int.ofNat b)=Int.ofNat (a+b))/\(∀a b:Nat,(Int.ofNat a*Int.ofNat b)=Int.ofNat (a*b))/\
  (∀a,Xd .u64 (.ofNat a)=.ofNat (a%18446744073709551616))/\(∀a,Xd .u32 (.ofNat a)=.ofNat (a%4294967296))/\
  (∀a,Pc .u64 (.ofNat a) (.ofNat 32)=some (.p (.int .u64 (.ofNat (a / 4294967296)))))/\(∀a,Pc .u64 (.ofNat a) (.ofNat 63)=some (.p (.int .u64 (.ofNat (a / 9223372036854775808)))))/\
  (∀k a b,U5 k (.ofNat a) (.ofNat (b+1))=some (.p (.int k (Xd k (.ofNat (a / (b+1)))))))/\(∀k a b,TN k (.ofNat a) (.ofNat (b+1))=some (.p (.int k (.ofNat (a%(b+1))))))/\
  (decide True=true)/\(decide False=false)/\((!decide True)=false)/\((!decide False)=true)/\((false=true)=False):=by
 refine⟨bk,fun _ _=>rfl,fun _ _=>rfl,JG,fun _ _=>rfl,fun _ _=>rfl,E8,fun _ _=>rfl,fun _ _=>rfl,fun a b=>im a b,dB,zI,im,fun _ _=>rfl,fun _ _=>rfl,fun _=>rfl,fun _=>rfl,fun _=>rfl,fun _=>rfl,fun _ _ _=>rfl,fun _ _ _=>rfl,rfl,rfl,rfl,rfl,by simp⟩
structure Xq where
 E0:Xa
 X:Nat->Option Vu
 le:∀K,NK E0 (lift X K E0)
def Xq.E (B:Xq)(K n:Nat):Xa:=ev B.E0 B.X K n
def XT (B:Xq)(p:Xa->Nat->Prop):Prop:=∃N,∀K n,N<=K->N<=n->p (B.E K n) K
section
variable {B:Xq}{p q:Xa->Nat->Prop}
theorem XT.and (h:XT B p)(k:XT B q):XT B fun E K=>p E K/\q E K:=by
 obtain⟨N,b⟩:=h;obtain⟨M,a⟩:=k;exact⟨max N M,fun K n c d=>⟨b K n (by omega) (by omega),a K n (by omega) (by omega)⟩⟩
theorem XT.mono (h:XT B p)(k:∀E K,p E K->q E K):XT B q:=by
 obtain⟨N,c⟩:=h;exact⟨N,fun K n a b=>k _ _ (c K n a b)⟩
theorem XT.of (k:∀K n,p (B.E K n) K):XT B p:=⟨0,fun K n _ _=>k K n⟩
theorem XT.ge (m):XT B fun _ K=>m<=K:=⟨m,fun _ _ h _=>h⟩
theorem XT.all {p:Nat->Xa->Nat->Prop}:∀n,(∀i,i<n->XT B (p i))->XT B fun E K=>∀i,i<n->p i E K
 |0,_=>XT.of fun _ _ i h=>by omega
 |n+1,h=>by
  refine((XT.all n fun i c=>h i (by omega)).and (h n (by omega))).mono fun E K ⟨a,b⟩ i c=> ?_
  by_cases e:i=n
  ·subst e;exact b
  ·exact a i (by omega)
def Xv (B:Xq)(f:Nat)(a:List PV)(r:PV):Prop:=∃K n,(B.E K n).pure f a=some r
def Uu (B:Xq)(f:Nat)(a:X')(H:V')(d:DV)(H':V'):Prop:=∃K n,(B.E K n).heap f a H=some (d,H')
variable {f:Nat}{a:List PV}{r:PV}{H H':V'}{d:DV}{ad:X'}{xf:Vu}
theorem Xq.H9 {K a n m}(h:K<=a)(k:n<=m):NK (B.E K n) (B.E a m):=LN B.E0 B.X B.le h k
theorem Xv.Xk (h:Xv B f a r):XT B fun E _=>E.pure f a=some r:=by
 obtain⟨K,n,h⟩:=h;exact⟨max K n,fun b m c d=>(B.H9 (by omega) (by omega)).pure f a r h⟩
theorem Uu.Xk (h:Uu B f ad H d H'):XT B fun E _=>E.heap f ad H=some (d,H'):=by
 obtain⟨K,n,h⟩:=h;exact⟨max K n,fun a m b c=>(B.H9 (by omega) (by omega)).heap f ad H _ h⟩
theorem Xv.of (c:B.X f=some xf)(h:XT B fun E K=>UN E K xf a=some r):Xv B f a r:=by
 obtain⟨N,b⟩:=h;refine⟨N,N+1,?_⟩;show(match B.X f with
  |some xf=>UN (B.E N N) N xf a
  |none=>(B.E N N).pure f a)=some r
 rw[c];exact b N N (Zf _) (Zf _)
theorem Uu.of (b:B.X f=some xf)(h:XT B fun E K=>VN E K xf ad H=some (d,H')):Uu B f ad H d H':=by
 obtain⟨N,a⟩:=h;refine⟨N,N+1,?_⟩;show(match B.X f with
  |some xf=>VN (B.E N N) N xf ad H
  |none=>(B.E N N).heap f ad H)=some (d,H')
 rw[b];exact a N N (Zf _) (Zf _)
theorem Uu.base (h:B.E0.heap f ad H=some (d,H')):Uu B f ad H d H':=⟨0,0,h⟩
theorem Xq.mode (K n):(B.E K n).mode=B.E0.mode:=by
 induction n with
 |zero=>rfl
 |succ n a=>exact a
theorem XT.mode:XT B fun E _=>E.mode=B.E0.mode:=XT.of fun K n=>Xq.mode K n
end
def fb (rs:List (Nat×Option (Bool×Nat)))(s:St):Option (DV×V'):=
 match Xw (WV s) rs with
 |some ds=>bif ds.all DV.plain then some (yL ds,s.H)else none
 |none=>none
theorem uo (E)(K b)(a:List (Nat×Option (Bool×Nat)))(c)(args)(H):VN E K ⟨b,a,c⟩ args H=(bif Nat.ble args.length b then(match XP E K 0 c ⟨U9 args 0,H⟩with |some (.normal,s)=>fb a s|some (.ret,s)=>fb a s|_=>none)else none):=by
 unfold VN QB;rw[NF];cases Nat.ble args.length b with
 |false=>rfl
 |true=>
  simp only[cond_true];rcases XP E K 0 c ⟨U9 args 0,H⟩with _|⟨_|_|_,s⟩
  ·rfl
  ·simp only[fb];cases Xw (WV s) a<;>rfl
  ·rfl
  ·simp only[fb];cases Xw (WV s) a<;>rfl
theorem Vv:(∀E K i (h:List (Nat×Option (Bool×Nat))) c args H,VN E K ⟨i,h,c⟩ args H=(bif Nat.ble args.length i then(match XP E K 0 c ⟨U9 args 0,H⟩with |some (.normal,s)=>fb h s|some (.ret,s)=>fb h s|_=>none)else none))/\
  (∀s,fb [] s=some (.Wd [],s.H))/\
  (∀s (x:Nat×Option (Bool×Nat)),fb [x] s=(match WV s x with |some d=>bif DV.plain d then some (d,s.H)else none|none=>none))/\
  (∀s (x y:Nat×Option (Bool×Nat)),fb [x,y] s=(match WV s x with |some d=>(match WV s y with |some e=>bif DV.plain d&&DV.plain e then some (.Wd [d,e],s.H)else none|none=>none)|none=>none))/\
  (∀l,DV.plain (.one l)=true)/\(∀l,DV.plain (.agg l)=true)/\
  (∀E a f args (g:Option (Nat×Bool)) j b s,PG E ⟨a,.call f,args,g,j⟩ b s=VA E a f b s)/\
  (∀E a f b s,VA E a f b s=(match E.mode f with
   | .heap=>(match E.heap f b s.H with
     |some (v,H)=>some (⟨O2 s.T a v,H⟩,[],[])
     |none=>none)
   | .fresh=>(match UL E f b s.H with
     |some (v,H)=>some (⟨O2 s.T a v,H⟩,[],[])
     |none=>none)
   |_=>none)):=by
 refine⟨uo,fun s=>rfl,fun s x=> ?_,fun s x y=> ?_,fun _=>rfl,fun _=>rfl,fun _ _ _ _ _ _ _ _=>rfl,fun E a f b s=> ?_⟩
 ·simp only[fb,Xw];cases WV s x<;>simp[yL]
 ·simp only[fb,Xw];cases WV s x<;>cases WV s y<;>simp[yL]
 ·unfold VA;cases E.mode f with
  |pure=>rfl
  |view=>rfl
  |heap=>cases E.heap f b s.H with
   |none=>rfl
   |some p=>simp only[TA]
  |fresh=>cases UL E f b s.H with
   |none=>rfl
   |some p=>simp only[TA]
theorem rq:(∀(G L:V'),(G++L)[G.length]? =L[0]?)/\(∀(G L:V') (k:Nat),(G++L)[G.length+k]? =L[k]?)/\(∀(G L:V') (k:Nat),(G++L)[G.length+1+k]? =L[1+k]?)/\
  (∀(G L:V') (x:Xx),(G++L).set G.length x=G++L.set 0 x)/\(∀(G L:V') (k:Nat) (x:Xx),(G++L).set (G.length+k) x=G++L.set k x)/\
  (∀(x:Xx) (L:V'),(x::L)[0]? =some x)/\(∀(x:Xx) (L:V') (k:Nat),(x::L)[k+1]? =L[k]?)/\(∀(x y:Xx) (L:V'),(x::L).set 0 y=y::L)/\(∀(x y:Xx) (L:V') (k:Nat),(x::L).set (k+1) y=x::L.set k y)/\
  (∀(x y:Xx) (L:V'),(x::y::L)[1]? =some y)/\(∀(x y z:Xx) (L:V'),(x::y::z::L)[2]? =some z)/\(∀(x y z u:Xx) (L:V'),(x::y::z::u::L)[3]? =some u)/\
  (∀(x y w:Xx) (L:V'),(x::y::L).set 1 w=x::w::L)/\(∀(x y z w:Xx) (L:V'),(x::y::z::L).set 2 w=x::y::w::L)/\(∀(x y z u w:Xx) (L:V'),(x::y::z::u::L).set 3 w=x::y::z::w::L):=by
 refine⟨fun G L=> ?_,fun G L k=> ?_,fun G L k=> ?_,fun G L x=> ?_,fun G L k x=> ?_,fun _ _=>rfl,fun _ _ _=>rfl,fun _ _ _=>rfl,fun _ _ _ _=>rfl,fun _ _ _=>rfl,fun _ _ _ _=>rfl,fun _ _ _ _ _=>rfl,fun _ _ _ _=>rfl,fun _ _ _ _ _=>rfl,fun _ _ _ _ _ _=>rfl⟩
 ·rw[ZZ (Zf _),Nat.sub_self]
 ·rw[ZZ (Nat.le_add_right ..),Nat.add_sub_cancel_left]
 ·rw[ZZ (by omega)];congr 1;omega
 ·rw[List.set_append_right _ _ (Zf _),Nat.sub_self]
 ·rw[List.set_append_right _ _ (Nat.le_add_right ..),Nat.add_sub_cancel_left]
theorem SZ:∃a:Xa->Nat->Nat->XN->St->Option (Ex×St),∃d:Xa->Nat->Nat->P'->XN->Nat->St->Option (Ex×St),∃j:Xa->Nat->Nat->O'->St->Option (St×List QK),∃m:Xa->Nat->O'->St->Option St,∃l:Xa->Nat->Bool->Xz->St->Option (St×P'×P'),∃h:Xa->Nat->O'->O'->St->Option St,∃g:Xa->Nat->O'->St->Option St,
  a=XP/\d=Xb/\j=Tt/\m=U8/\l=Vz/\h=Ox/\g=TK/\(∀E K b k e c s,d E K b e c (k+1) s=(match a E K b c s with |some (.normal,s)=>d E K b e c k ⟨V8 s.T e,s.H⟩|r=>r))/\YM a d j m l h g/\∀E K i (f:List (Nat×Option (Bool×Nat))) c args H,VN E K ⟨i,f,c⟩ args H=(bif Nat.ble args.length i then(match a E K 0 c ⟨U9 args 0,H⟩with |some (.normal,s)=>fb f s|some (.ret,s)=>fb f s|_=>none)else none):=by
 refine⟨XP,Xb,Tt,U8,Vz,Ox,TK,rfl,rfl,rfl,rfl,rfl,rfl,rfl,?_,Y3,?_⟩<;>intros<;>first |rfl|exact uo ..
