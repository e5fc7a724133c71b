/- The equations by which simp runs the interpreter over symbolic values (written by gen_evrun.py). -/
import Derived.Test.YtidginchkjhobaaGreatEvTop
set_option maxRecDepth 100000
namespace Go.Ev
def Xb (E:Xa)(K b:Nat)(ks:List Nat)(c:XH):Nat->St->Option (Ex×St)
 |0,_=>none
 |k+1,s=>match XG E K b c s with
  |some (.normal,s)=>Xb E K b ks c k ⟨VH s.T ks,s.H⟩
  |r=>r
theorem tN (E:Xa)(K b:Nat)(a:List Nat)(c:XH):∀(k:Nat) (s:St),PX (fun s=>XG E K b (.VW a c) s) k s=Xb E K b a c k ⟨VH s.T a,s.H⟩
 |0,_=>rfl
 |k+1,s=>by
  have e:XG E K b (.VW a c) s=XG E K b c ⟨VH s.T a,s.H⟩:=by simp only[XG,RA]
  have d:=tN E K b a c k;simp only[PX,Xb];rw[e];rcases XG E K b c ⟨VH s.T a,s.H⟩with _|⟨_|_|_,s1⟩
  ·rfl
  ·exact d s1
  ·rfl
  ·rfl
theorem rq (E:Xa)(K b:Nat)(s:St)(a:List Nat)(c:XH):XG E K b (.loop (.VW a c)) s=Xb E K b a c K ⟨VH s.T a,s.H⟩:=by
 simp only[XG];exact tN E K b a c K s
def rP (rs:List (Nat×Option (Bool×Nat)))(s:St):Option PV:=
 match Xt (WA s) rs with
 |some ds=>(match Xt (XY (Xn s.H)) ds with
  |some ps=>some (cM ps)
  |none=>none)
 |none=>none
theorem yt (E:Xa)(K b:Nat)(a:List (Nat×Option (Bool×Nat)))(c:XH)(args:List PV):Ug E K ⟨b,a,c⟩ args=(bif Nat.ble (args.map inj).length b then(match XG E K 0 c ⟨Ur (args.map inj) 0,[]⟩with |some (.normal,s)=>rP a s|some (.ret,s)=>rP a s|_=>none)else none):=by
 unfold Ug Sp;rw[Oj];cases Nat.ble (args.map inj).length b with
 |false=>rfl
 |true=>
  simp only[cond_true];rcases XG E K 0 c ⟨Ur (args.map inj) 0,[]⟩with _|⟨_|_|_,s⟩
  ·rfl
  ·simp only[rP];cases Xt (WA s) a<;>rfl
  ·rfl
  ·simp only[rP];cases Xt (WA s) a<;>rfl
def R6:List RO->Bool
 |[]=>true
 |f::fs=>f.wr.isEmpty&&Nat.beq f.lo f.hi&&R6 fs
theorem cL:∀{a:List RO},R6 a=true->OQ a
 |[],_=>trivial
 |f::a,h=>by
  simp only[R6,Zs,List.isEmpty_iff]at h;exact⟨⟨h.1.1,Zl h.1.2⟩,cL h.2⟩
theorem wv (E:Xa)(b:Nat)(a:List Xw)(s:St):UA E b a s=(match Uz E b 0 a s with |some (s,fs)=>(if R6 fs=true then some s else(if Rh fs=true then some s else none))|none=>none):=by
 unfold UA;rcases Uz E b 0 a s with _|⟨s1,fs⟩
 ·rfl
 ·show(bif Rh fs then some s1 else none)=(if R6 fs=true then some s1 else(if Rh fs=true then some s1 else none));by_cases c:R6 fs=true
  ·rw[if_pos c,BT (cL c),cond_true]
  ·rw[if_neg c];cases Rh fs<;>rfl
theorem jF (n:Nat)(h:HF)(l:PL):XA n h (.p l)=some l:=by cases n<;>rfl
theorem jC (n:Nat)(h:HF)(l:PL):W1 n h (.p l)=[]:=by cases n<;>rfl
theorem Ce (a e d b:Nat)(h:HF)(n:Nat)(y:DL):W6 a e d b h n [.one (.p .XC),.one y]=(match Wp h y with |some (new,ids)=>(bif new.all (fun c=>Nat.beq c.length d)then WQ e d b n new ids else none)|none=>none):=by
 simp only[W6];rfl
theorem Cd (a e g f:Nat)(h:HF)(n id XX d:Nat)(y:DL):W6 a e g f h n [.one (.own id XX 0 d),.one y]=(match Wp h y with |some (new,ids)=>(bif new.all (fun c=>Nat.beq c.length g)then(match h id with |some b=>(bif Nat.beq b.ch.length d then U4 a e g f id XX d b new ids else S2 a e g id XX d b new ids)|none=>none)else none)|none=>none):=by
 simp only[W6];rfl
theorem yR (b e:Type)(f:b->Option e)(x:b)(a:List b):Xt f (x::a)=(match f x with |none=>none|some y=>(match Xt f a with |none=>none|some d=>some (y::d))):=by
 cases h:f x with
 |none=>simp only[Xt,h]
 |some y=>cases c:Xt f a<;>simp only[Xt,h,c]
abbrev Gj:Prop:=(∀(T:List (Nat×DV)),(UC T none=(some true))/\(VH T []=([])))/\
  (∀(T:List (Nat×DV)) (t:Nat) (w:Bool),UC T (some (t,w))=(match Xh T t with |some (.one (.p (.bool b)))=>some (b==w)|some (.XZ [])=>some false|_=>none))/\
  (∀(α β:Type) (f:α->Option β),(Xt f []=(some []))/\(List.filterMap f []=([])))/\
  (∀(α β:Type) (f:α->Option β) (x:α) (xs:List α),Xt f (x::xs)=(match f x with |none=>none|some y=>(match Xt f xs with |none=>none|some ys=>some (y::ys))))/\
  (∀(T:List (Nat×DV)) (n:Nat),W8.eval T (.t n)=(Xh T n))/\
  (∀(T:List (Nat×DV)) (v:PV),W8.eval T (.c v)=(some (inj v)))/\
  (∀(l:PL),(inj (.one l)=(.one (.p l)))/\(lM (.one l)=(.one (.p l)))/\((PV.one l).scalar=(l.scalar))/\((PV.one l).Ow=(l.scalar)))/\
  (∀(cs:List PL),(inj (.agg cs)=(.agg (cs.map .p)))/\(lM (.agg cs)=(.agg (cs.map .p)))/\((PV.agg cs).scalar=(cs.all PL.scalar))/\((PV.agg cs).Ow=(cs.all PL.scalar))/\(PL.scalar (.ref cs)=(false)))/\
  (∀(vs:List PV),(inj (.XZ vs)=(.XZ (vs.map lM)))/\((PV.XZ vs).scalar=(vs.all PV.Ow)))/\
  (∀(t:Nat) (v:DV) (T:List (Nat×DV)) (n:Nat),Xh ((t,v)::T) n=(if t=n then some v else Xh T n))/\
  (∀(T:List (Nat×DV)) (k:Nat) (ks:List Nat),VH T (k::ks)=(match Xh T k with |some v=>(k,v)::VH T ks|none=>VH T ks))/\
  (∀(T:List (Nat×DV)) (d:Nat) (v:DV),OS T (some d) v=((d,v)::T))/\
  (∀(T:List (Nat×DV)) (v:DV),OS T none v=(T))/\
  (∀(H:List Xz),(VC H []=(H))/\(Om H []=(H)))/\
  (∀(H:List Xz) (i:Nat) (x:Xz) (ws:List (Nat×Xz)),VC H ((i,x)::ws)=(VC (H.set i x) ws))/\
  (∀(H:List Xz) (x:Xz) (xs:List Xz),Om H (x::xs)=(H++x::xs))/\
  (∀(H:List Xz) (i:Nat),Xn H i=(H[i]?))/\
  (∀(E:Xa) (b:Nat) (vs:List DV) (h:HF) (n:Nat),(X8 E b (.move) vs h n=(Nc vs))/\(X8 E b (.nilCheck) vs h n=(Sj vs))/\(X8 E b (.pick) vs h n=(Nb vs))/\(X8 E b (.len) vs h n=(Qn vs))/\(X8 E b (.max) vs h n=(Rx Tf vs))/\(X8 E b (.min) vs h n=(Rx (fun a b=>Tf b a) vs))/\(X8 E b (.PY) vs h n=(Tb h vs))/\(X8 E b (.slice3) vs h n=(Ql vs))/\(X8 E b (.TF) vs h n=(SA E h vs)))/\
  (∀(E:Xa) (vs:List DV),(XK E (.move) vs=(false))/\(XK E (.nilCheck) vs=(false))/\(XK E (.pick) vs=(false))/\(XK E (.len) vs=(false))/\(XK E (.max) vs=(false))/\(XK E (.min) vs=(false))/\(XK E (.PY) vs=(false))/\(XK E (.slice3) vs=(false)))/\
  (∀(E:Xa),(Xk E (.move)=(false))/\(Xk E (.nilCheck)=(false))/\(Xk E (.pick)=(false))/\(Xk E (.len)=(false))/\(Xk E (.max)=(false))/\(Xk E (.min)=(false))/\(Xk E (.PY)=(false))/\(Xk E (.slice3)=(false)))/\
  (∀(E:Xa) (b:Nat) (t:Nat) (vs:List DV) (h:HF) (n:Nat),X8 E b (.box t) vs h n=(aj t n vs))/\
  (∀(E:Xa) (t:Nat) (vs:List DV),XK E (.box t) vs=(false))/\
  (∀(E:Xa) (t:Nat),Xk E (.box t)=(false))/\
  (∀(E:Xa) (b:Nat) (t:Nat) (z:List PL) (vs:List DV) (h:HF) (n:Nat),X8 E b (.alloc t z) vs h n=(RV t z n vs))/\
  (∀(E:Xa) (t:Nat) (z:List PL) (vs:List DV),XK E (.alloc t z) vs=(false))/\
  (∀(E:Xa) (t:Nat) (z:List PL),Xk E (.alloc t z)=(false))/\
  (∀(E:Xa) (b:Nat) (z:List PL) (pl:List (Nat×Nat)) (vs:List DV) (h:HF) (n:Nat),X8 E b (.build z pl) vs h n=(Q0 z pl vs))/\
  (∀(E:Xa) (z:List PL) (pl:List (Nat×Nat)) (vs:List DV),XK E (.build z pl) vs=(false))/\
  (∀(E:Xa) (z:List PL) (pl:List (Nat×Nat)),Xk E (.build z pl)=(false))/\
  (∀(E:Xa) (b:Nat) (e:Nat) (z:List PL) (m:Nat) (pl:List Nat) (vs:List DV) (h:HF) (n:Nat),X8 E b (.buildSlice e z m pl) vs h n=(VN e z m pl n vs))/\
  (∀(E:Xa) (e:Nat) (z:List PL) (m:Nat) (pl:List Nat) (vs:List DV),XK E (.buildSlice e z m pl) vs=(false))/\
  (∀(E:Xa) (e:Nat) (z:List PL) (m:Nat) (pl:List Nat),Xk E (.buildSlice e z m pl)=(false))/\
  (∀(E:Xa) (b:Nat) (a:Bool) (m:Nat) (vs:List DV) (h:HF) (n:Nat),X8 E b (.load a m) vs h n=(QX a m h vs))/\
  (∀(E:Xa) (a:Bool) (m:Nat) (vs:List DV),XK E (.load a m) vs=(false))/\
  (∀(E:Xa) (a:Bool) (m:Nat),Xk E (.load a m)=(false))/\
  (∀(E:Xa) (b:Nat) (m:Nat) (vs:List DV) (h:HF) (n:Nat),(X8 E b (.store m) vs h n=(RS b m h vs))/\(X8 E b (.fieldAddr m) vs h n=(V6 m vs))/\(X8 E b (.Q7 m) vs h n=(Vv m h vs))/\(X8 E b (.extract m) vs h n=(Sk m vs))/\(X8 E b (.yZ m) vs h n=(Nd m vs))/\(X8 E b (.copy m) vs h n=(QZ b m h vs)))/\
  (∀(E:Xa) (m:Nat) (vs:List DV),(XK E (.store m) vs=(false))/\(XK E (.fieldAddr m) vs=(false))/\(XK E (.Q7 m) vs=(false))/\(XK E (.extract m) vs=(false))/\(XK E (.yZ m) vs=(false))/\(XK E (.copy m) vs=(false)))/\
  (∀(E:Xa) (m:Nat),(Xk E (.store m)=(false))/\(Xk E (.fieldAddr m)=(false))/\(Xk E (.Q7 m)=(false))/\(Xk E (.extract m)=(false))/\(Xk E (.yZ m)=(false))/\(Xk E (.copy m)=(false)))/\
  (∀(E:Xa) (b:Nat) (o:BinOp) (vs:List DV) (h:HF) (n:Nat),X8 E b (.bin o) vs h n=(fE o vs))/\
  (∀(E:Xa) (o:BinOp) (vs:List DV),XK E (.bin o) vs=(false))/\
  (∀(E:Xa) (o:BinOp),Xk E (.bin o)=(false))/\
  (∀(E:Xa) (b:Nat) (q:Bool) (vs:List DV) (h:HF) (n:Nat),(X8 E b (.wK q) vs h n=(Ng q vs))/\(X8 E b (.cu q) vs h n=(VZ q vs)))/\
  (∀(E:Xa) (q:Bool) (vs:List DV),(XK E (.wK q) vs=(false))/\(XK E (.cu q) vs=(false)))/\
  (∀(E:Xa) (q:Bool),(Xk E (.wK q)=(false))/\(Xk E (.cu q)=(false)))/\
  (∀(E:Xa) (b:Nat) (q:Bool) (k:IntKind) (m:Nat) (vs:List DV) (h:HF) (n:Nat),X8 E b (.NC q k m) vs h n=(Ul q k m vs))/\
  (∀(E:Xa) (q:Bool) (k:IntKind) (m:Nat) (vs:List DV),XK E (.NC q k m) vs=(false))/\
  (∀(E:Xa) (q:Bool) (k:IntKind) (m:Nat),Xk E (.NC q k m)=(false))/\
  (∀(E:Xa) (b:Nat) (o:UnOp) (vs:List DV) (h:HF) (n:Nat),X8 E b (.un o) vs h n=(fD o vs))/\
  (∀(E:Xa) (o:UnOp) (vs:List DV),XK E (.un o) vs=(false))/\
  (∀(E:Xa) (o:UnOp),Xk E (.un o)=(false))/\
  (∀(E:Xa) (b:Nat) (k:IntKind) (vs:List DV) (h:HF) (n:Nat),X8 E b (.conv k) vs h n=(Nf k vs))/\
  (∀(E:Xa) (k:IntKind) (vs:List DV),XK E (.conv k) vs=(false))/\
  (∀(E:Xa) (k:IntKind),Xk E (.conv k)=(false))/\
  (∀(E:Xa) (b:Nat) (m p:Nat) (vs:List DV) (h:HF) (n:Nat),X8 E b (.fY m p) vs h n=(SN m p vs))/\
  (∀(E:Xa) (m p:Nat) (vs:List DV),XK E (.fY m p) vs=(false))/\
  (∀(E:Xa) (m p:Nat),Xk E (.fY m p)=(false))/\
  (∀(E:Xa) (b:Nat) (m:Nat) (a:Bool) (p:Nat) (vs:List DV) (h:HF) (n:Nat),X8 E b (.fX m a p) vs h n=(UP m a p vs))/\
  (∀(E:Xa) (m:Nat) (a:Bool) (p:Nat) (vs:List DV),XK E (.fX m a p) vs=(false))/\
  (∀(E:Xa) (m:Nat) (a:Bool) (p:Nat),Xk E (.fX m a p)=(false))/\
  (∀(E:Xa) (b:Nat) (a:Bool) (m p:Nat) (vs:List DV) (h:HF) (n:Nat),X8 E b (.field a m p) vs h n=(QY a m p vs))/\
  (∀(E:Xa) (a:Bool) (m p:Nat) (vs:List DV),XK E (.field a m p) vs=(false))/\
  (∀(E:Xa) (a:Bool) (m p:Nat),Xk E (.field a m p)=(false))/\
  (∀(E:Xa) (b:Nat) (m:Nat) (lo hi:Bool) (vs:List DV) (h:HF) (n:Nat),X8 E b (.slice m lo hi) vs h n=(RT m lo hi h vs))/\
  (∀(E:Xa) (m:Nat) (lo hi:Bool) (vs:List DV),XK E (.slice m lo hi) vs=(false))/\
  (∀(E:Xa) (m:Nat) (lo hi:Bool),Xk E (.slice m lo hi)=(false))/\
  (∀(E:Xa) (b:Nat) (e m p:Nat) (vs:List DV) (h:HF) (n:Nat),X8 E b (.append e m p) vs h n=(W6 b e m p h n vs))/\
  (∀(E:Xa) (e m p:Nat) (vs:List DV),XK E (.append e m p) vs=(false))/\
  (∀(E:Xa) (e m p:Nat),Xk E (.append e m p)=(false))/\
  (∀(E:Xa) (b:Nat) (e:Nat) (z:List PL) (m:Nat) (vs:List DV) (h:HF) (n:Nat),X8 E b (.makeSlice e z m) vs h n=(V5 e z m n vs))/\
  (∀(E:Xa) (e:Nat) (z:List PL) (m:Nat) (vs:List DV),XK E (.makeSlice e z m) vs=(false))/\
  (∀(E:Xa) (e:Nat) (z:List PL) (m:Nat),Xk E (.makeSlice e z m)=(false))/\
  (∀(E:Xa) (b:Nat) (m:Nat) (a:Bool) (vs:List DV) (h:HF) (n:Nat),X8 E b (.makeMap m a) vs h n=(TA m a n vs))/\
  (∀(E:Xa) (m:Nat) (a:Bool) (vs:List DV),XK E (.makeMap m a) vs=(false))/\
  (∀(E:Xa) (m:Nat) (a:Bool),Xk E (.makeMap m a)=(false))/\
  (∀(E:Xa) (b:Nat) (m:Nat) (k:IntKind) (a:Bool) (z:List PL) (o:Bool) (vs:List DV) (h:HF) (n:Nat),X8 E b (.lookup m k a z o) vs h n=(UO m k a z o h vs))/\
  (∀(E:Xa) (m:Nat) (k:IntKind) (a:Bool) (z:List PL) (o:Bool) (vs:List DV),XK E (.lookup m k a z o) vs=(false))/\
  (∀(E:Xa) (m:Nat) (k:IntKind) (a:Bool) (z:List PL) (o:Bool),Xk E (.lookup m k a z o)=(false))/\
  (∀(E:Xa) (b:Nat) (m:Nat) (k:IntKind) (a:Bool) (p:Nat) (vs:List DV) (h:HF) (n:Nat),X8 E b (.mapUpdate m k a p) vs h n=(Vf m k a p h vs))/\
  (∀(E:Xa) (m:Nat) (k:IntKind) (a:Bool) (p:Nat) (vs:List DV),XK E (.mapUpdate m k a p) vs=(false))/\
  (∀(E:Xa) (m:Nat) (k:IntKind) (a:Bool) (p:Nat),Xk E (.mapUpdate m k a p)=(false))/\
  (∀(E:Xa) (b:Nat) (f:Nat) (vs:List DV) (h:HF) (n:Nat),(X8 E b (.makeFunc f) vs h n=(UN f vs))/\(X8 E b (.call f) vs h n=(Vk E h f vs)))/\
  (∀(E:Xa) (f:Nat) (vs:List DV),(XK E (.makeFunc f) vs=(false))/\(XK E (.call f) vs=(Ue E f)))/\
  (∀(E:Xa) (f:Nat),(Xk E (.makeFunc f)=(false))/\(Xk E (.call f)=(Ue E f))/\(Ue E f=(match E.mode f with | .pure=>false|_=>true)))/\
  (∀(E:Xa) (b:Nat) (z:List PL) (vs:List DV) (h:HF) (n:Nat),X8 E b (.clear z) vs h n=(RU b z h vs))/\
  (∀(E:Xa) (z:List PL) (vs:List DV),XK E (.clear z) vs=(false))/\
  (∀(E:Xa) (z:List PL),Xk E (.clear z)=(false))/\
  (∀(base sz:Nat) (h:HF) (id XX off len:Nat) (y:DL),QZ base sz h [.one (.own id XX off len),.one y]=(match h id with |some b=>(match Wp h y with |some (new,ids)=>Ob base sz id XX off len b new ids|none=>none)|none=>none))/\
  (∀(x:DV),Nc [x]=(some ⟨x,[],[],[]⟩))/\
  (∀(c:Bool) (x y:DV),Nb [.one (.p (.bool c)),x,y]=(some ⟨bif c then x else y,[],[],[]⟩))/\
  (∀(t n:Nat) (l:DL),aj t n [.one l]=(some ⟨.one (.ptr n 0 0 0),[⟨false,0,1,[[l]],false,t⟩],[],[]⟩))/\
  (∀(t n:Nat) (cs:List DL),aj t n [.agg cs]=(some ⟨.one (.ptr n 0 0 0),[⟨false,0,cs.length,[cs],false,t⟩],[],[]⟩))/\
  (∀(t:Nat) (z:List PL) (n:Nat),RV t z n []=(some ⟨.one (.ptr n 0 0 0),[⟨false,0,z.length,[z.map .p],false,t⟩],[],[]⟩))/\
  (∀(o:BinOp) (k k2:IntKind) (x y:Int),fE o [.one (.p (.int k x)),.one (.p (.int k2 y))]=(match Wr o k k2 x y with |some d=>some ⟨.one d,[],[],[]⟩|none=>none))/\
  (∀(k:IntKind) (x y:Int),(Wr .add k k x y=(T9 k (Xe k (x+y))))/\(Wr .sub k k x y=(T9 k (Xe k (x-y))))/\(Wr .mul k k x y=(T9 k (Xe k (x*y))))/\(Wr .eql k k x y=(TX (Pc x y)))/\(Wr .neq k k x y=(TX (!Pc x y)))/\(Wr .lss k k x y=(TX (Tf x y)))/\(Wr .leq k k x y=(TX (tQ x y)))/\(Wr .gtr k k x y=(TX (Tf y x)))/\(Wr .geq k k x y=(TX (tQ y x)))/\(Wr .quo k k x y=(Tz k x y))/\(Wr .rem k k x y=(U8 k x y))/\(Wr .or k k x y=(T9 k (UB k (Nat.lor (WK k x) (WK k y)))))/\(Wr .and k k x y=(T9 k (UB k (Nat.land (WK k x) (WK k y))))))/\
  (∀(k k2:IntKind) (x y:Int),(Wr .shl k k2 x y=(NB k x y))/\(Wr .shr k k2 x y=(Qb k x y)))/\
  (∀(k:IntKind) (n:Int),(T9 k n=(some (.p (.int k n))))/\(fD .neg [.one (.p (.int k n))]=(some ⟨.one (.p (.int k (Xe k (0-n)))),[],[],[]⟩))/\(PL.scalar (.int k n)=(true)))/\
  (∀(c:Bool),(TX c=(some (.p (.bool c))))/\(fD .not [.one (.p (.bool c))]=(some ⟨.one (.p (.bool (!c))),[],[],[]⟩)))/\
  (∀(k k2:IntKind) (n:Int),Nf k [.one (.p (.int k2 n))]=(some ⟨.one (.p (.int k (Xe k n))),[],[],[]⟩))/\
  (∀(q x y:Bool),Ng q [.one (.p (.bool x)),.one (.p (.bool y))]=(some ⟨.one (.p (.bool ((x==y)!=q))),[],[],[]⟩))/\
  ((Qn [.one (.p .XC)]=(some ⟨.one (.p (.int .i64 (.ofNat 0))),[],[],[]⟩))/\(R6 []=(true))/\(cF=(.c (.one (.bool false))))/\(cT=(.c (.one (.bool true))))/\(PL.scalar (.XC)=(true))/\(PL.scalar (.RB)=(true))/\((!true)=(false))/\((!false)=(true))/\((true==true)=(true))/\((false==false)=(true))/\((true==false)=(false))/\((false==true)=(false))/\((true !=true)=(false))/\((false !=false)=(false))/\((true !=false)=(true))/\((false !=true)=(true)))/\
  (∀(es:List (List PL)),(Qn [.one (.p (.Xp es))]=(some ⟨.one (.p (.int .i64 (.ofNat es.length))),[],[],[]⟩))/\(PL.scalar (.Xp es)=(false)))/\
  (∀(i v o l:Nat),Qn [.one (.own i v o l)]=(some ⟨.one (.p (.int .i64 (.ofNat l))),[],[],[]⟩))/\
  (∀(m:Nat) (cs:List PL),V6 m [.one (.p (.ref cs))]=(bif Nat.ble m cs.length then some ⟨.one (.p (.ref (cs.drop m))),[],[],[]⟩else none))/\
  (∀(m i v j o:Nat),V6 m [.one (.ptr i v j o)]=(some ⟨.one (.ptr i v j (o+m)),[],[],[]⟩))/\
  (∀(m:Nat) (vs:List DV),Sk m [.XZ vs]=(match vs[m]? with |some v=>some ⟨v,[],[],[]⟩|none=>none))/\
  (∀(sz:Nat) (h:HF) (es:List (List PL)) (k:IntKind) (i:Nat),Vv sz h [.one (.p (.Xp es)),.one (.p (.int k (.ofNat i)))]=(match es[i]? with |some c=>(bif Nat.beq c.length sz then some ⟨.one (.p (.ref c)),[],[],[]⟩else none)|none=>none))/\
  (∀(sz:Nat) (h:HF) (id XX off len:Nat) (k:IntKind) (i:Nat),Vv sz h [.one (.own id XX off len),.one (.p (.int k (.ofNat i)))]=(match h id with |some b=>(bif Nat.beq b.sz sz&&Nat.blt i len then some ⟨.one (.ptr id XX (off+i) 0),[],[],[id]⟩else none)|none=>none))/\
  (∀(m p:Nat) (cs:List PL) (k:IntKind) (i:Nat),SN m p [.one (.p (.ref cs)),.one (.p (.int k (.ofNat i)))]=(bif Nat.blt i m&&Nat.ble (i*p) cs.length then some ⟨.one (.p (.ref (cs.drop (i*p)))),[],[],[]⟩else none))/\
  (∀(m p id XX j o:Nat) (k:IntKind) (i:Nat),SN m p [.one (.ptr id XX j o),.one (.p (.int k (.ofNat i)))]=(bif Nat.blt i m then some ⟨.one (.ptr id XX j (o+i*p)),[],[],[]⟩else none))/\
  (∀(a:Bool) (m:Nat) (h:HF) (cs:List PL),QX a m h [.one (.p (.ref cs))]=(match Ti a m (cs.map .p)with |some v=>some ⟨v,[],[],[]⟩|none=>none))/\
  (∀(a:Bool) (m:Nat) (h:HF) (id XX i off:Nat),QX a m h [.one (.ptr id XX i off)]=(match SF h id XX i with |some c=>(bif Nat.ble off c.length then(match Ti a m (c.drop off)with |some v=>some ⟨v,[],[],[id]⟩|none=>none)else none)|none=>none))/\
  (∀(h:HF) (id XX i:Nat),SF h id XX i=(match h id with |some b=>(bif Nat.beq b.XX XX&& !b.mp then b.ch[i]? else none)|none=>none))/\
  (∀(m:Nat) (c:DL) (cs:List DL),Ti false m (c::cs)=(some (.one c)))/\
  (∀(m:Nat) (cs:List DL),Ti true m cs=(bif Nat.ble m cs.length then some (.agg (cs.take m))else none))/\
  (∀(b m:Nat) (h:HF) (id XX i off:Nat) (x:DV),RS b m h [.one (.ptr id XX i off),x]=(match h id with |some k=>(match x.cells with |some cs=>QO b m id XX i off k cs|none=>none)|none=>none))/\
  (∀(l:DL),(DV.one l).cells=(some [l]))/\
  (∀(cs:List DL),((DV.agg cs).cells=(some cs))/\(Pn cs [] []=(some cs)))/\
  (∀(base sz id XX i off:Nat) (b:Xz) (cs:List DL),QO base sz id XX i off b cs=(bif Nat.beq b.XX XX&& !b.mp&& !b.fz&&Nat.beq cs.length sz&&(Nat.ble base id||R3 cs)then(match b.ch[i]? with |some c=>(bif Nat.ble (off+sz) c.length then some ⟨.XZ [],[],[(id,{b with ch:=b.ch.set i (c.take off++cs++c.drop (off+sz))})],[id]⟩else none)|none=>none)else none))/\
  (∀(e:Nat) (z:List PL) (m n:Nat) (k k2:IntKind) (l c:Nat),V5 e z m n [.one (.p (.int k (.ofNat l))),.one (.p (.int k2 (.ofNat c)))]=(bif Nat.ble l c&&Nat.ble (m*c) lim&&Nat.ble c 9223372036854775807 then some ⟨.one (.own n 0 0 l),[⟨false,0,z.length,List.replicate l (z.map .p),false,e⟩],[],[]⟩else none))/\
  (∀(i:Nat) (rd wr af:List Nat) (lo hi:Nat) (fs:List RO),R6 (⟨i,rd,wr,af,lo,hi⟩::fs)=(wr.isEmpty&&Nat.beq lo hi&&R6 fs))/\
  (∀(n:Nat),(cI n=(.int .i64 (.ofNat n)))/\(cN n=(.int .i64 (.negSucc n)))/\(cW n=(.int .u32 (.ofNat n)))/\(cQ n=(.int .u64 (.ofNat n)))/\(cB n=(.int .u8 (.ofNat n)))/\(cC n=(.c (.one (.int .i64 (.ofNat n)))))/\(Ur [] n=([]))/\(Nat.beq n n=(true))/\((n==n)=(true))/\(Nat.ble 0 n=(true))/\(n+0=(n))/\(0+n=(n)))/\
  (∀(d:Nat) (op:aT) (a:List W8),oP d op a=(⟨some d,op,a,none,[]⟩))/\
  (∀(d:Nat) (op:aT) (a:List W8) (af:List Nat),oA d op a af=(⟨some d,op,a,none,af⟩))/\
  (∀(d:Nat) (op:aT) (a:List W8) (g:Nat) (b:Bool) (af:List Nat),oG d op a g b af=(⟨some d,op,a,some (g,b),af⟩))/\
  (∀(op:aT) (a:List W8) (af:List Nat),oN op a af=(⟨none,op,a,none,af⟩))/\
  (∀(d t:Nat),mV d t=(⟨some d,.move,[.t t],none,[]⟩))/\
  (∀(d t:Nat) (af:List Nat),mA d t af=(⟨some d,.move,[.t t],none,af⟩))/\
  (∀(d:Nat) (c:W8),mC d c=(⟨some d,.move,[c],none,[]⟩))/\
  (∀(l:List Xw),(rG l=(.region false l))/\(rD l=(.region true l)))/\
  (∀(x y:XH),sQ x y=(.seq x y))/\
  (∀(α:Type) (a b:α) (h:a=b),Q a h=(b))/\
  (∀(rs:List (Nat×Option (Bool×Nat))) (s:St),rP rs s=(match Xt (WA s) rs with |some ds=>(match Xt (XY (Xn s.H)) ds with |some ps=>some (cM ps)|none=>none)|none=>none))/\
  (∀(v:DV) (vs:List DV) (n:Nat),Ur (v::vs) n=((n,v)::Ur vs (n+1)))/\
  (∀(s:St) (t:Nat),WA s (t,none)=(Xh s.T t))/\
  (∀(s:St) (t:Nat) (a:Bool) (sz:Nat),WA s (t,some (a,sz))=(match Xh s.T t with |some (.one (.ptr id XX i off))=>(match s.H[id]? with |some b=>(bif Nat.beq b.XX XX&& !b.mp then(match b.ch[i]? with |some c=>(bif a then(bif Nat.ble (off+sz) c.length then some (.agg ((c.drop off).take sz))else none)else(match c.drop off with |d::_=>some (.one d)|[]=>none))|none=>none)else none)|none=>none)|_=>none))/\
  (∀(v:PV),cM [v]=(v))/\
  (∀(u v:PV) (r:List PV),cM (u::v::r)=(.XZ (u::v::r)))/\
  (∀(h:HF) (l:PL),XY h (.one (.p l))=(some (.one l)))/\
  (∀(h:HF) (id XX off len:Nat),(XY h (.one (.own id XX off len))=(match XA 6 h (.own id XX off len)with |some l=>some (.one l)|none=>none))/\(Wp h (.own id XX off len)=(match h id with |some b=>(bif Nat.beq b.XX XX&& !b.mp&&Nat.ble (off+len) b.ch.length then some ((b.ch.drop off).take len,[id])else none)|none=>none)))/\
  (∀(h:HF) (cs:List DL),(XY h (.agg cs)=(match Xt (XA 6 h) cs with |some cs=>some (.agg cs)|none=>none))/\(S7 h (.agg cs)=(cs.flatMap (W1 6 h))))/\
  (∀(n:Nat) (h:HF) (l:PL),(XA n h (.p l)=(some l))/\(W1 n h (.p l)=([])))/\
  (∀(n:Nat) (h:HF) (id XX off len:Nat),(XA (n+1) h (.own id XX off len)=(match h id with |some b=>(bif Nat.beq b.XX XX&& !b.mp&&Nat.ble (off+len) b.ch.length then(match Xt (Xt (XA n h)) ((b.ch.drop off).take len)with |some es=>some (.Xp es)|none=>none)else none)|none=>none))/\(W1 (n+1) h (.own id XX off len)=(match h id with |some b=>id::((b.ch.drop off).take len).flatMap (fun c=>c.flatMap (W1 n h))|none=>[])))/\
  (∀(h:HF) (l:DL),S7 h (.one l)=(W1 6 h l))/\
  (∀(E:Xa) (h:HF) (f:Nat) (vs:List DV),Vk E h f vs=(match E.mode f with | .pure=>(match Xt (XY h) vs with |some ps=>(match E.pure f ps with |some r=>(bif(vs.flatMap (S7 h)).isEmpty||r.scalar then some ⟨inj r,[],[],vs.flatMap (S7 h)⟩else some ⟨inj r,[],(vs.flatMap (S7 h)).filterMap (fun id=>(h id).map fun b=>(id,{b with fz:=true})),vs.flatMap (S7 h)⟩)|none=>none)|none=>none)|_=>none))/\
  (∀(b:Bool),(PL.scalar (.bool b)=(true))/\((true&&b)=(b))/\((false&&b)=(false))/\((b&&true)=(b))/\((b&&false)=(false))/\((true||b)=(true))/\((false||b)=(b))/\((b||true)=(true))/\((b||false)=(b)))/\
  (∀(s:List Nat),PL.scalar (.str s)=(true))/\
  (∀(a:Bool) (m p:Nat) (cs:List DL),QY a m p [.agg cs]=(bif Nat.ble p cs.length then(match Ti a m (cs.drop p)with |some v=>some ⟨v,[],[],[]⟩|none=>none)else none))/\
  (∀(z:List PL) (pl:List (Nat×Nat)) (vs:List DV),Q0 z pl vs=(match Pn (z.map .p) pl vs with |some cs=>some ⟨.agg cs,[],[],[]⟩|none=>none))/\
  (∀(cs:List DL) (off sz:Nat) (ps:List (Nat×Nat)) (v:DV) (vs:List DV),Pn cs ((off,sz)::ps) (v::vs)=(match v.cells with |some ds=>(bif Nat.beq ds.length sz&&Nat.ble (off+sz) cs.length then Pn (cs.take off++ds++cs.drop (off+sz)) ps vs else none)|none=>none))/\
  (∀(e:Nat) (z:List PL) (m:Nat) (pl:List Nat) (n:Nat) (vs:List DV),VN e z m pl n vs=(match Po z.length (List.replicate m (z.map .p)) pl vs with |some cs=>some ⟨.one (.own n 0 0 m),[⟨false,0,z.length,cs,false,e⟩],[],[]⟩|none=>none))/\
  (∀(sz:Nat) (cs:List (List DL)),Po sz cs [] []=(some cs))/\
  (∀(sz:Nat) (cs:List (List DL)) (i:Nat) (ps:List Nat) (v:DV) (vs:List DV),Po sz cs (i::ps) (v::vs)=(match v.cells with |some ds=>(bif Nat.beq ds.length sz&&Nat.blt i cs.length then Po sz (cs.set i ds) ps vs else none)|none=>none))/\
  (∀(sz:Nat) (lo hi:Bool) (h:HF) (vs:List DV),RT sz lo hi h vs=(match VL lo hi vs with |some (x,l,u)=>(match WI sz h x l u with |some (d,rd)=>some ⟨.one d,[],[],rd⟩|none=>none)|none=>none))/\
  (∀(x:DL),VL false false [.one x]=(some (x,0,none)))/\
  (∀(x:DL) (k:IntKind) (a:Nat),(VL true false [.one x,.one (.p (.int k (.ofNat a)))]=(some (x,a,none)))/\(VL false true [.one x,.one (.p (.int k (.ofNat a)))]=(some (x,0,some a))))/\
  (∀(x:DL) (k k2:IntKind) (a c:Nat),VL true true [.one x,.one (.p (.int k (.ofNat a))),.one (.p (.int k2 (.ofNat c)))]=(some (x,a,some c)))/\
  (∀(sz:Nat) (h:HF) (es:List (List PL)) (l:Nat),WI sz h (.p (.Xp es)) l none=(bif Nat.ble l es.length&&Nat.ble es.length es.length&&RH sz es[l]? then some (.p (.Xp ((es.take es.length).drop l)),[])else none))/\
  (∀(sz:Nat) (h:HF) (es:List (List PL)) (l u:Nat),WI sz h (.p (.Xp es)) l (some u)=(bif Nat.ble l u&&Nat.ble u es.length&&RH sz es[l]? then some (.p (.Xp ((es.take u).drop l)),[])else none))/\
  (∀(sz:Nat) (h:HF) (l:Nat),WI sz h (.p .XC) l none=(bif Nat.beq l 0&&Nat.beq 0 0 then some (.p .XC,[])else none))/\
  (∀(sz:Nat) (h:HF) (l u:Nat),WI sz h (.p .XC) l (some u)=(bif Nat.beq l 0&&Nat.beq u 0 then some (.p .XC,[])else none))/\
  (∀(sz:Nat) (c:List PL),RH sz (some c)=(Nat.beq c.length sz))/\
  (∀(sz:Nat),RH sz none=(true))/\
  (∀(base e sz by_:Nat) (h:HF) (n:Nat) (y:DL),W6 base e sz by_ h n [.one (.p .XC),.one y]=(match Wp h y with |some (new,ids)=>(bif new.all (fun c=>Nat.beq c.length sz)then WQ e sz by_ n new ids else none)|none=>none))/\
  (∀(base e sz by_:Nat) (h:HF) (n id XX len:Nat) (y:DL),W6 base e sz by_ h n [.one (.own id XX 0 len),.one y]=(match Wp h y with |some (new,ids)=>(bif new.all (fun c=>Nat.beq c.length sz)then(match h id with |some b=>(bif Nat.beq b.ch.length len then U4 base e sz by_ id XX len b new ids else S2 base e sz id XX len b new ids)|none=>none)else none)|none=>none))/\
  (∀(base e sz by_ id XX len:Nat) (b:Xz) (new:List (List DL)) (ids:List Nat),U4 base e sz by_ id XX len b new ids=(bif Nat.beq b.XX XX&& !b.mp&& !b.fz&&Nat.beq b.ch.length len&&Nat.beq b.sz sz&&Nat.beq b.ty e&&Nat.ble base id&&Nat.ble ((len+new.length)*by_) lim&&Nat.ble (len+new.length) 9223372036854775807 then some ⟨.one (.own id (XX+1) 0 (len+new.length)),[],[(id,{b with XX:=XX+1,ch:=b.ch++new})],id::ids⟩else none))/\
  (∀(h:HF),Wp h (.p .XC)=(some ([],[])))/\
  (∀(h:HF) (es:List (List PL)),Wp h (.p (.Xp es))=(some (es.map (·.map .p),[])))/\
  (∀(α:Type) (x y:α),(cond true x y=(x))/\(cond false x y=(y)))/\
  (∀(α β:Type) (f:α->β),List.map f []=([]))/\
  (∀(α β:Type) (f:α->β) (x:α) (l:List α),List.map f (x::l)=(f x::List.map f l))/\
  (∀(α:Type),(([]:List α).length=(0))/\(([]:List α).isEmpty=(true)))/\
  (∀(α:Type) (x:α) (l:List α),((x::l).length=(l.length+1))/\((x::l)[0]? =(some x))/\((x::l).isEmpty=(false)))/\
  (∀(α:Type) (x:α) (l:List α) (n:Nat),((x::l)[n+1]? =(l[n]?))/\((x::l).take (n+1)=(x::l.take n))/\((x::l).drop (n+1)=(l.drop n)))/\
  (∀(α:Type) (x y:α) (l:List α),(x::l).set 0 y=(y::l))/\
  (∀(α:Type) (x y:α) (l:List α) (n:Nat),(x::l).set (n+1) y=(x::l.set n y))/\
  (∀(α:Type) (x:α) (l m:List α),x::l++m=(x::(l++m)))/\
  (∀(α:Type) (l:List α),([]++l=(l))/\(l++[]=(l))/\(l.take 0=([]))/\(l.drop 0=(l)))/\
  (∀(α:Type) (n:Nat),(([]:List α).take n=([]))/\(([]:List α).drop n=([])))/\
  (∀(α:Type) (p:α->Bool),List.all [] p=(true))/\
  (∀(α:Type) (p:α->Bool) (x:α) (l:List α),List.all (x::l) p=((p x&&List.all l p)))/\
  (∀(α β:Type) (f:α->List β),List.flatMap f []=([]))/\
  (∀(α β:Type) (f:α->List β) (x:α) (l:List α),List.flatMap f (x::l)=(f x++List.flatMap f l))/\
  (∀(α:Type) (x:α),(List.replicate 0 x=([]))/\(List.replicate 1 x=([x]))/\(List.replicate 2 x=([x,x]))/\(List.replicate 3 x=([x,x,x])))/\
  (∀(α β:Type) (f:α->Option β) (x:α) (l:List α),List.filterMap f (x::l)=((match f x with |none=>List.filterMap f l|some b=>b::List.filterMap f l)))/\
  (∀(α β:Type) (f:α->β) (x:α),Option.map f (some x)=(some (f x)))
theorem Tl:Gj:=by
 refine⟨?_,?_,?_,?_,?_,?_,?_,?_,?_,?_,?_,?_,?_,?_,?_,?_,?_,?_,?_,?_,?_,?_,?_,?_,?_,?_,?_,?_,?_,?_,?_,?_,?_,?_,?_,?_,?_,?_,?_,?_,?_,?_,?_,?_,?_,?_,?_,?_,?_,?_,?_,?_,?_,?_,?_,?_,?_,?_,?_,?_,?_,?_,?_,?_,?_,?_,?_,?_,?_,?_,?_,?_,?_,?_,?_,?_,?_,?_,?_,?_,?_,?_,?_,?_,?_,?_,?_,?_,?_,?_,?_,?_,?_,?_,?_,?_,?_,?_,?_,?_,?_,?_,?_,?_,?_,?_,?_,?_,?_,?_,?_,?_,?_,?_,?_,?_,?_,?_,?_,?_,?_,?_,?_,?_,?_,?_,?_,?_,?_,?_,?_,?_,?_,?_,?_,?_,?_,?_,?_,?_,?_,?_,?_,?_,?_,?_,?_,?_,?_,?_,?_,?_,?_,?_,?_,?_,?_,?_,?_,?_,?_,?_,?_,?_,?_,?_,?_,?_,?_,?_,?_,?_,?_,?_,?_,?_,?_,?_,?_,?_,?_,?_,?_,?_,?_⟩<;>intros<;>(repeat' apply And.intro)<;>first |rfl|exact Ux ..|exact yR ..|exact jF ..|exact jC ..|exact Ce ..|exact Cd ..|(simp only[XG,RA];done)|(simp only[W3,TR,Qv,NM,aW,gN];rfl)|(rename_i k _ _;cases k<;>rfl)|(rename_i b;cases b<;>rfl)|exact YW _|exact beq_self_eq_true _|exact ZS _|simp
abbrev F2 (cE:Xa->Nat->Nat->XH->St->Option (Ex×St))(lK:Xa->Nat->Nat->List Nat->XH->Nat->St->Option (Ex×St))(oD:Xa->Nat->Nat->List Xw->St->Option (St×List RO))(oS:Xa->Nat->List Xw->St->Option St)(oR:Xa->Nat->Bool->Xw->St->Option (St×List Nat×List Nat))(dS:Xa->Nat->List Xw->List Xw->St->Option St)(dD:Xa->Nat->List Xw->St->Option St):Prop:=(∀(E:Xa) (K b:Nat) (s:St),(cE E K b .skip s=(some (.normal,s)))/\(cE E K b .ret s=(some (.ret,s))))/\
  (∀(E:Xa) (K b:Nat) (s:St) (ops:List Xw),(cE E K b (.region false ops) s=(match oS E b ops s with |some s=>some (.normal,s)|none=>none))/\(cE E K b (.region true ops) s=(match dD E b ops s with |some s=>some (.normal,s)|none=>none)))/\
  (∀(E:Xa) (K b:Nat) (s:St) (p u:List Xw),cE E K b (.Rb p u) s=(match dS E b p u s with |some s=>some (.normal,s)|none=>none))/\
  (∀(E:Xa) (K b:Nat) (s:St) (x y:XH),cE E K b (.seq x y) s=(match cE E K b x s with |some (.normal,s)=>cE E K b y s|r=>r))/\
  (∀(E:Xa) (K b:Nat) (s:St) (c:W8) (x y:XH),cE E K b (.cond c x y) s=(match c.eval s.T with |some (.one (.p (.bool true)))=>cE E K b x s|some (.one (.p (.bool false)))=>cE E K b y s|_=>none))/\
  (∀(E:Xa) (K b:Nat) (s:St) (i:Nat) (x:XH),cE E K b (.block i x) s=(match cE E K b x s with |some (.exit j,s)=>bif j==i then some (.normal,s)else some (.exit j,s)|r=>r))/\
  (∀(E:Xa) (K b:Nat) (s:St) (ks:List Nat) (x:XH),(cE E K b (.loop (.VW ks x)) s=(lK E K b ks x K ⟨VH s.T ks,s.H⟩))/\(cE E K b (.VW ks x) s=(cE E K b x ⟨VH s.T ks,s.H⟩)))/\
  (∀(E:Xa) (K b:Nat) (s:St) (x:XH),cE E K b (.scope x) s=(cE E K b x s))/\
  (∀(E:Xa) (K b:Nat) (s:St) (i:Nat),cE E K b (.exit i) s=(some (.exit i,s)))/\
  (∀(E:Xa) (b:Nat) (s:St),oS E b [] s=(some s))/\
  (∀(E:Xa) (b:Nat) (s:St) (o:Xw) (os:List Xw),oS E b (o::os) s=(match oR E b true o s with |some (s,_,_)=>oS E b os s|none=>none))/\
  (∀(E:Xa) (b:Nat) (hp:Bool) (s:St) (dst:Option Nat) (op:aT) (args:List W8) (g:Option (Nat×Bool)) (af:List Nat),oR E b hp ⟨dst,op,args,g,af⟩ s=(match UC s.T g with |none=>none|some false=>some (⟨OS s.T dst (.XZ []),s.H⟩,[],[])|some true=>(match Xt (W8.eval s.T) args with |none=>none|some vs=>bif hp&&XK E op vs then Qt E ⟨dst,op,args,g,af⟩ vs s else(match X8 E b op vs (Xn s.H) s.H.length with |some r=>some (⟨OS s.T dst r.val,Om (VC s.H r.wr) r.al⟩,r.rd,r.wr.map (·.1))|none=>none))))/\
  (∀(E:Xa) (b:Nat) (ops:List Xw) (s:St),dD E b ops s=(match oD E b 0 ops s with |some (s,fs)=>(if R6 fs=true then some s else(if Rh fs=true then some s else none))|none=>none))/\
  (∀(E:Xa) (b:Nat) (p u:List Xw) (s:St),dS E b p u s=(match dD E b p s with |some s=>oS E b u s|none=>none))/\
  (∀(E:Xa) (b i:Nat) (s:St),oD E b i [] s=(some (s,[])))/\
  (∀(E:Xa) (b i:Nat) (o:Xw) (os:List Xw) (s:St),oD E b i (o::os) s=(bif Xk E o.op&& !(os.isEmpty&&TZ o.after i)then none else(match oR E b (Xk E o.op) o s with |some (s1,rd,wr)=>(match oD E b (i+1) os s1 with |some (s2,fs)=>some (s2,⟨i,rd,wr,o.after,s.H.length,s1.H.length⟩::fs)|none=>none)|none=>none)))/\
  (∀(E:Xa) (K nt:Nat) (rs:List (Nat×Option (Bool×Nat))) (c:XH) (args:List PV),Ug E K ⟨nt,rs,c⟩ args=(bif Nat.ble (args.map inj).length nt then(match cE E K 0 c ⟨Ur (args.map inj) 0,[]⟩with |some (.normal,s)=>rP rs s|some (.ret,s)=>rP rs s|_=>none)else none))
theorem Gk:F2 XG Xb Uz V9 W3 Pb UA:=by
 refine⟨?_,?_,?_,?_,?_,?_,?_,?_,?_,?_,?_,?_,?_,?_,?_,?_,?_⟩<;>intros<;>(repeat' apply And.intro)<;>first |rfl|exact wv ..|exact rq ..|exact yt ..|(simp only[XG,RA];done)|(simp only[W3,TR,Qv,NM,aW,gN];rfl)|(rename_i k _ _;cases k<;>rfl)|(rename_i b;cases b<;>rfl)|exact YW _|exact beq_self_eq_true _|exact ZS _|simp
theorem Xm:F2 XG Xb Uz V9 W3 Pb UA/\Gj:=⟨Gk,Tl⟩
theorem Vg:(∀a,Rh a=a.all fun f=>(f.wr.isEmpty&&Nat.beq f.lo f.hi)||a.all fun g=>P3 f g)/\
  (∀f g,P3 f g=(Nat.beq f.i g.i||(f.wr.all (fun id=> !(g.wr.contains id)&&(!(g.rd.contains id)||f.after.contains g.i))&&g.rd.all (fun id=> !(Nat.ble f.lo id&&Nat.ble (id+1) f.hi)||g.after.contains f.i)&&g.wr.all (fun id=> !(Nat.ble f.lo id&&Nat.ble (id+1) f.hi)||g.after.contains f.i))))/\
  (∀(x y:Nat) (l:List Nat),(y::l).contains x=(decide (x=y)||l.contains x))/\(∀x:Nat,([]:List Nat).contains x=false)/\
  (∀(G:List Xz) (y:Xz),(G++[y])[G.length]? =some y)/\(∀(G:List Xz) (x y:Xz),(G++[x,y])[G.length+1]? =some y)/\(∀(G:List Xz) (x y:Xz),(G++[x,y])[G.length]? =some x)/\
  (∀(G:List Xz) (x y:Xz),(G++[x])++[y]=G++[x,y])/\(∀(G:List Xz) (x:Xz),(G++[x]).length=G.length+1)/\(∀(G:List Xz) (x y:Xz),(G++[x,y]).length=G.length+2)/\
  (∀(G:List Xz) (x y:Xz),(G++[x]).set G.length y=G++[y])/\(∀(G:List Xz) (x y z:Xz),(G++[x,y]).set (G.length+1) z=G++[x,z])/\(∀(G:List Xz) (x y z:Xz),(G++[x,y]).set G.length z=G++[z,y])/\
  (∀n:Nat,(n=n+1)=False)/\(∀n:Nat,(n+1=n)=False)/\(∀n:Nat,(n+1<=n)=False)/\(∀n:Nat,(n<=n+1)=True)/\(∀n:Nat,(n=n+2)=False)/\(∀n:Nat,(n+2=n)=False)/\(∀n:Nat,(n+2<=n)=False)/\(∀n:Nat,(n<=n+2)=True)/\(∀n:Nat,(n=n+3)=False)/\(∀n:Nat,(n+3=n)=False)/\(∀n:Nat,(n+3<=n)=False)/\(∀n:Nat,(n<=n+3)=True)/\(∀n:Nat,(n=n+4)=False)/\(∀n:Nat,(n+4=n)=False)/\(∀n:Nat,(n+4<=n)=False)/\(∀n:Nat,(n<=n+4)=True)/\(∀n:Nat,(n<=n)=True):=by
 refine⟨fun _=>rfl,fun _ _=>rfl,fun x y l=> ?_,fun _=>rfl,?_,?_,?_,?_,?_,?_,?_,?_,?_,?_,?_,?_,?_,?_,?_,?_,?_,?_,?_,?_,?_,?_,?_,?_,?_,?_⟩
 ·simp only[List.contains_cons];congr 1
 all_goals intros;first |(simp;done)|(simp only[eq_iff_iff,iff_false,iff_true];omega)
theorem wrap_i64 {a:Nat}(h:a<9223372036854775808):Xe .i64 (.ofNat a)=.ofNat a:=mF h
theorem wrap_u64 (a:Nat):Xe .u64 (.ofNat a)=.ofNat (a%18446744073709551616):=rfl
theorem wrap_u32 (a:Nat):Xe .u32 (.ofNat a)=.ofNat (a%4294967296):=rfl
theorem TM {a b:Nat}(h:b<=a):(Int.ofNat a-Int.ofNat b)=Int.ofNat (a-b):=by simp only[ZD];omega
theorem Wj {a b:Nat}(h:b<=a)(c:a<9223372036854775808):Xe .i64 (.ofNat a-.ofNat b)=.ofNat (a-b):=by
 rw[TM h];exact mF (by omega)
theorem sub_neg {a b:Nat}(h:a<b):(Int.ofNat a-Int.ofNat b)=Int.negSucc (b-a-1):=by
 simp only[ZD,Int.negSucc_eq];omega
theorem Ot {a b:Nat}(h:b<=18446744073709551616):Xe .u64 (.ofNat a-.ofNat b)=.ofNat ((a+(18446744073709551616-b))%18446744073709551616):=by
 by_cases c:b<=a
 ·rw[TM c,wrap_u64];congr 1;omega
 ·rw[sub_neg (by omega)];show UB .u64 (WK .u64 (.negSucc (b-a-1)))=_;have :WK .u64 (.negSucc (b-a-1))=(a+(18446744073709551616-b))%18446744073709551616:=by
   simp only[WK,S6];omega
  rw[this];rfl
theorem aL (a b:Nat):Nat.blt a b=decide (a<b):=by
 by_cases h:a<b
 ·rw[Og h];simp[h]
 ·rw[E2 (by omega)];simp[h]
theorem uv (a b:Nat):Nat.ble a b=decide (a<=b):=by
 by_cases h:a<=b
 ·rw[RK h];simp[h]
 ·rw[CK (by omega)];simp[h]
theorem ej (a b:Nat):Nat.beq a b=decide (a=b):=by
 by_cases h:a=b
 ·rw[pL h];simp[h]
 ·rw[E3 h];simp[h]
theorem Nk (a b:Nat):Tf (.ofNat a) (.ofNat b)=decide (a<b):=aL a b
theorem zJ (a b:Nat):Pc (.ofNat a) (.ofNat b)=decide (a=b):=ej a b
theorem Du (a b:Nat):tQ (.ofNat a) (.ofNat b)=decide (a<=b):=by
 unfold tQ;rw[Nk];by_cases h:a<=b
 ·simp[h,Nat.not_lt.2 h]
 ·simp[h,Nat.lt_of_not_le h]
def pI:Nat->Int
 |0=>.negSucc 0
 |n+1=>.ofNat n
theorem Uk {n:Nat}(h:n<9223372036854775808):Xe .i64 (.ofNat n-.ofNat 1)=pI n:=by
 cases n with
 |zero=>rfl
 |succ n=>exact Wj (by omega) h
theorem Xq:(∀a b,Tf (.ofNat a) (.ofNat b)=decide (a<b))/\(∀a b,Tf (.ofNat a) (.negSucc b)=false)/\(∀a b,Tf (.negSucc a) (.ofNat b)=true)/\
  (∀a b,tQ (.ofNat a) (.ofNat b)=decide (a<=b))/\(∀a b,tQ (.ofNat a) (.negSucc b)=false)/\(∀a b,tQ (.negSucc a) (.ofNat b)=true)/\
  (∀a b,Pc (.ofNat a) (.ofNat b)=decide (a=b))/\(∀a b,Pc (.ofNat a) (.negSucc b)=false)/\(∀a b,Pc (.negSucc a) (.ofNat b)=false)/\(∀a b,Pc (.negSucc a) (.negSucc b)=decide (a=b))/\
  (∀a b,Nat.blt a b=decide (a<b))/\(∀a b,Nat.ble a b=decide (a<=b))/\(∀a b,Nat.beq a b=decide (a=b))/\
  (∀a b:Nat,(Int.ofNat a+Int.ofNat b)=Int.ofNat (a+b))/\(∀a b:Nat,(Int.ofNat a*Int.ofNat b)=Int.ofNat (a*b))/\
  (∀a,Xe .u64 (.ofNat a)=.ofNat (a%18446744073709551616))/\(∀a,Xe .u32 (.ofNat a)=.ofNat (a%4294967296))/\
  (∀a,Qb .u64 (.ofNat a) (.ofNat 32)=some (.p (.int .u64 (.ofNat (a / 4294967296)))))/\(∀a,Qb .u64 (.ofNat a) (.ofNat 63)=some (.p (.int .u64 (.ofNat (a / 9223372036854775808)))))/\
  (∀k a b,Tz k (.ofNat a) (.ofNat (b+1))=some (.p (.int k (Xe k (.ofNat (a / (b+1)))))))/\(∀k a b,U8 k (.ofNat a) (.ofNat (b+1))=some (.p (.int k (.ofNat (a%(b+1))))))/\
  (decide True=true)/\(decide False=false)/\((!decide True)=false)/\((!decide False)=true)/\((false=true)=False):=by
 refine⟨Nk,fun _ _=>rfl,fun _ _=>rfl,Du,fun _ _=>rfl,fun _ _=>rfl,zJ,fun _ _=>rfl,fun _ _=>rfl,fun a b=>ej a b,aL,uv,ej,fun _ _=>rfl,fun _ _=>rfl,fun _=>rfl,fun _=>rfl,fun _=>rfl,fun _=>rfl,fun _ _ _=>rfl,fun _ _ _=>rfl,rfl,rfl,rfl,rfl,by simp⟩
structure Xs where
 E0:Xa
 X:Nat->Option Vb
 le:∀K,O6 E0 (lift X K E0)
def Xs.E (B:Xs)(K n:Nat):Xa:=ev B.E0 B.X K n
def X1 (B:Xs)(p:Xa->Nat->Prop):Prop:=∃N,∀K n,N<=K->N<=n->p (B.E K n) K
section
variable {B:Xs}{p q:Xa->Nat->Prop}
theorem X1.and (h:X1 B p)(k:X1 B q):X1 B fun E K=>p E K/\q E K:=by
 obtain⟨N,b⟩:=h;obtain⟨M,a⟩:=k;exact⟨max N M,fun K n c d=>⟨b K n (by omega) (by omega),a K n (by omega) (by omega)⟩⟩
theorem X1.mono (h:X1 B p)(k:∀E K,p E K->q E K):X1 B q:=by
 obtain⟨N,c⟩:=h;exact⟨N,fun K n a b=>k _ _ (c K n a b)⟩
theorem X1.of (k:∀K n,p (B.E K n) K):X1 B p:=⟨0,fun K n _ _=>k K n⟩
theorem X1.ge (m:Nat):X1 B fun _ K=>m<=K:=⟨m,fun _ _ h _=>h⟩
theorem X1.all {p:Nat->Xa->Nat->Prop}:∀(n:Nat),(∀i,i<n->X1 B (p i))->X1 B fun E K=>∀i,i<n->p i E K
 |0,_=>X1.of fun _ _ i h=>by omega
 |n+1,h=>by
  refine((X1.all n fun i c=>h i (by omega)).and (h n (by omega))).mono fun E K ⟨a,b⟩ i c=> ?_
  by_cases e:i=n
  ·subst e;exact b
  ·exact a i (by omega)
def Xx (B:Xs)(f:Nat)(a:List PV)(r:PV):Prop:=∃K n,(B.E K n).pure f a=some r
def S3 (B:Xs)(f:Nat)(a:List DV)(H:List Xz)(d:DV)(H':List Xz):Prop:=∃K n,(B.E K n).heap f a H=some (d,H')
variable {f:Nat}{a:List PV}{r:PV}{H H':List Xz}{d:DV}{ad:List DV}{xf:Vb}
theorem Xs.Cm {K a n m:Nat}(h:K<=a)(k:n<=m):O6 (B.E K n) (B.E a m):=EY B.E0 B.X B.le h k
theorem Xx.Xj (h:Xx B f a r):X1 B fun E _=>E.pure f a=some r:=by
 obtain⟨K,n,h⟩:=h;exact⟨max K n,fun b m c d=>(B.Cm (by omega) (by omega)).pure f a r h⟩
theorem S3.Xj (h:S3 B f ad H d H'):X1 B fun E _=>E.heap f ad H=some (d,H'):=by
 obtain⟨K,n,h⟩:=h;exact⟨max K n,fun a m b c=>(B.Cm (by omega) (by omega)).heap f ad H _ h⟩
theorem Xx.of (c:B.X f=some xf)(h:X1 B fun E K=>Ug E K xf a=some r):Xx B f a r:=by
 obtain⟨N,b⟩:=h;refine⟨N,N+1,?_⟩;show(match B.X f with
  |some xf=>Ug (B.E N N) N xf a
  |none=>(B.E N N).pure f a)=some r
 rw[c];exact b N N (Zh _) (Zh _)
theorem S3.of (b:B.X f=some xf)(h:X1 B fun E K=>Uh E K xf ad H=some (d,H')):S3 B f ad H d H':=by
 obtain⟨N,a⟩:=h;refine⟨N,N+1,?_⟩;show(match B.X f with
  |some xf=>Uh (B.E N N) N xf ad H
  |none=>(B.E N N).heap f ad H)=some (d,H')
 rw[b];exact a N N (Zh _) (Zh _)
theorem S3.base (h:B.E0.heap f ad H=some (d,H')):S3 B f ad H d H':=⟨0,0,h⟩
theorem Xs.mode (K n:Nat):(B.E K n).mode=B.E0.mode:=by
 induction n with
 |zero=>rfl
 |succ n a=>exact a
theorem X1.mode:X1 B fun E _=>E.mode=B.E0.mode:=X1.of fun K n=>Xs.mode K n
end
end Go.Ev
namespace Go.Ev
def bV (rs:List (Nat×Option (Bool×Nat)))(s:St):Option (DV×List Xz):=
 match Xt (WA s) rs with
 |some ds=>bif ds.all DV.plain then some (tC ds,s.H)else none
 |none=>none
theorem oO (E:Xa)(K b:Nat)(a:List (Nat×Option (Bool×Nat)))(c:XH)(args:List DV)(H:List Xz):Uh E K ⟨b,a,c⟩ args H=(bif Nat.ble args.length b then(match XG E K 0 c ⟨Ur args 0,H⟩with |some (.normal,s)=>bV a s|some (.ret,s)=>bV a s|_=>none)else none):=by
 unfold Uh Sp;rw[Oj];cases Nat.ble args.length b with
 |false=>rfl
 |true=>
  simp only[cond_true];rcases XG E K 0 c ⟨Ur args 0,H⟩with _|⟨_|_|_,s⟩
  ·rfl
  ·simp only[bV];cases Xt (WA s) a<;>rfl
  ·rfl
  ·simp only[bV];cases Xt (WA s) a<;>rfl
theorem Vm:(∀(E:Xa) (K i:Nat) (h:List (Nat×Option (Bool×Nat))) (c:XH) (args:List DV) (H:List Xz),Uh E K ⟨i,h,c⟩ args H=(bif Nat.ble args.length i then(match XG E K 0 c ⟨Ur args 0,H⟩with |some (.normal,s)=>bV h s|some (.ret,s)=>bV h s|_=>none)else none))/\
  (∀(s:St),bV [] s=some (.XZ [],s.H))/\
  (∀(s:St) (x:Nat×Option (Bool×Nat)),bV [x] s=(match WA s x with |some d=>bif DV.plain d then some (d,s.H)else none|none=>none))/\
  (∀(s:St) (x y:Nat×Option (Bool×Nat)),bV [x,y] s=(match WA s x with |some d=>(match WA s y with |some e=>bif DV.plain d&&DV.plain e then some (.XZ [d,e],s.H)else none|none=>none)|none=>none))/\
  (∀l,DV.plain (.one l)=true)/\(∀l,DV.plain (.agg l)=true)/\
  (∀(E:Xa) (a:Option Nat) (f:Nat) (args:List W8) (g:Option (Nat×Bool)) (j:List Nat) (b:List DV) (s:St),Qt E ⟨a,.call f,args,g,j⟩ b s=W7 E a f b s)/\
  (∀(E:Xa) (a:Option Nat) (f:Nat) (b:List DV) (s:St),W7 E a f b s=(match E.mode f with
   | .heap=>(match E.heap f b s.H with
     |some (v,H)=>some (⟨OS s.T a v,H⟩,[],[])
     |none=>none)
   | .pure=>none)):=by
 refine⟨oO,fun s=>rfl,fun s x=> ?_,fun s x y=> ?_,fun _=>rfl,fun _=>rfl,fun _ _ _ _ _ _ _ _=>rfl,fun E a f b s=> ?_⟩
 ·simp only[bV,Xt];cases WA s x<;>simp[tC]
 ·simp only[bV,Xt];cases WA s x<;>cases WA s y<;>simp[tC]
 ·unfold W7;cases E.mode f with
  |pure=>rfl
  |heap=>cases E.heap f b s.H with
   |none=>rfl
   |some p=>simp only[TR]
theorem uE:(∀(G L:List Xz),(G++L)[G.length]? =L[0]?)/\(∀(G L:List Xz) (k:Nat),(G++L)[G.length+k]? =L[k]?)/\(∀(G L:List Xz) (k:Nat),(G++L)[G.length+1+k]? =L[1+k]?)/\
  (∀(G L:List Xz) (x:Xz),(G++L).set G.length x=G++L.set 0 x)/\(∀(G L:List Xz) (k:Nat) (x:Xz),(G++L).set (G.length+k) x=G++L.set k x)/\
  (∀(x:Xz) (L:List Xz),(x::L)[0]? =some x)/\(∀(x:Xz) (L:List Xz) (k:Nat),(x::L)[k+1]? =L[k]?)/\(∀(x y:Xz) (L:List Xz),(x::L).set 0 y=y::L)/\(∀(x y:Xz) (L:List Xz) (k:Nat),(x::L).set (k+1) y=x::L.set k y)/\
  (∀(x y:Xz) (L:List Xz),(x::y::L)[1]? =some y)/\(∀(x y z:Xz) (L:List Xz),(x::y::z::L)[2]? =some z)/\(∀(x y z u:Xz) (L:List Xz),(x::y::z::u::L)[3]? =some u)/\
  (∀(x y w:Xz) (L:List Xz),(x::y::L).set 1 w=x::w::L)/\(∀(x y z w:Xz) (L:List Xz),(x::y::z::L).set 2 w=x::y::w::L)/\(∀(x y z u w:Xz) (L:List Xz),(x::y::z::u::L).set 3 w=x::y::z::w::L):=by
 refine⟨fun G L=> ?_,fun G L k=> ?_,fun G L k=> ?_,fun G L x=> ?_,fun G L k x=> ?_,fun _ _=>rfl,fun _ _ _=>rfl,fun _ _ _=>rfl,fun _ _ _ _=>rfl,fun _ _ _=>rfl,fun _ _ _ _=>rfl,fun _ _ _ _ _=>rfl,fun _ _ _ _=>rfl,fun _ _ _ _ _=>rfl,fun _ _ _ _ _ _=>rfl⟩
 ·rw[ZL (Zh _),YV]
 ·rw[ZL (Nat.le_add_right ..),Y7]
 ·rw[ZL (by omega)];congr 1;omega
 ·rw[List.set_append_right _ _ (Zh _),YV]
 ·rw[List.set_append_right _ _ (Nat.le_add_right ..),Y7]
theorem T6:∃a:Xa->Nat->Nat->XH->St->Option (Ex×St),∃d:Xa->Nat->Nat->List Nat->XH->Nat->St->Option (Ex×St),∃j:Xa->Nat->Nat->List Xw->St->Option (St×List RO),∃m:Xa->Nat->List Xw->St->Option St,∃l:Xa->Nat->Bool->Xw->St->Option (St×List Nat×List Nat),∃h:Xa->Nat->List Xw->List Xw->St->Option St,∃g:Xa->Nat->List Xw->St->Option St,
  a=XG/\d=Xb/\j=Uz/\m=V9/\l=W3/\h=Pb/\g=UA/\(∀(E:Xa) (K b k:Nat) (e:List Nat) (c:XH) (s:St),d E K b e c (k+1) s=(match a E K b c s with |some (.normal,s)=>d E K b e c k ⟨VH s.T e,s.H⟩|r=>r))/\F2 a d j m l h g/\∀(E:Xa) (K i:Nat) (f:List (Nat×Option (Bool×Nat))) (c:XH) (args:List DV) (H:List Xz),Uh E K ⟨i,f,c⟩ args H=(bif Nat.ble args.length i then(match a E K 0 c ⟨Ur args 0,H⟩with |some (.normal,s)=>bV f s|some (.ret,s)=>bV f s|_=>none)else none):=by
 refine⟨XG,Xb,Uz,V9,W3,Pb,UA,rfl,rfl,rfl,rfl,rfl,rfl,rfl,?_,Gk,?_⟩<;>intros<;>first |rfl|exact oO ..
end Go.Ev
