/- The equations by which simp runs the interpreter over symbolic values (written by gen_evrun.py). -/
import Derived.Test.YtefpgecinlekpaaGreatEvTop
set_option maxRecDepth 100000
namespace Go.Ev
def Xc (E:Xb)(K b:Nat)(ks:List Nat)(c:XE):Nat->St->Option (Ex×St)
 |0,_=>none
 |k+1,s=>match XD E K b c s with
  |some (.normal,s)=>Xc E K b ks c k ⟨VK s.T ks,s.H⟩
  |r=>r
theorem tt (E:Xb)(K b:Nat)(a:List Nat)(c:XE):∀(k:Nat) (s:St),Ob (fun s=>XD E K b (.V2 a c) s) k s=Xc E K b a c k ⟨VK s.T a,s.H⟩
 |0,_=>rfl
 |k+1,s=>by
  have e:XD E K b (.V2 a c) s=XD E K b c ⟨VK s.T a,s.H⟩:=by simp only[XD,RH]
  have d:=tt E K b a c k;simp only[Ob,Xc];rw[e];rcases XD E K b c ⟨VK s.T a,s.H⟩with _|⟨_|_|_,s1⟩
  ·rfl
  ·exact d s1
  ·rfl
  ·rfl
theorem qV (E:Xb)(K b:Nat)(s:St)(a:List Nat)(c:XE):XD E K b (.loop (.V2 a c)) s=Xc E K b a c K ⟨VK s.T a,s.H⟩:=by
 simp only[XD];exact tt E K b a c K s
def rz (rs:List (Nat×Option (Bool×Nat)))(s:St):Option PV:=
 match Xt (WC s) rs with
 |some ds=>(match Xt (XU (Xl s.H)) ds with
  |some ps=>some (cM ps)
  |none=>none)
 |none=>none
theorem yj (E:Xb)(K b:Nat)(a:List (Nat×Option (Bool×Nat)))(c:XE)(args:List PV):UZ E K ⟨b,a,c⟩ args=(bif Nat.ble (args.map inj).length b then(match XD E K 0 c ⟨Ur (args.map inj) 0,[]⟩with |some (.normal,s)=>rz a s|some (.ret,s)=>rz a s|_=>none)else none):=by
 unfold UZ Sv;rw[Oy];cases Nat.ble (args.map inj).length b with
 |false=>rfl
 |true=>
  simp only[cond_true];rcases XD E K 0 c ⟨Ur (args.map inj) 0,[]⟩with _|⟨_|_|_,s⟩
  ·rfl
  ·simp only[rz];cases Xt (WC s) a<;>rfl
  ·rfl
  ·simp only[rz];cases Xt (WC s) a<;>rfl
def Qn:List RW->Bool
 |[]=>true
 |f::fs=>f.wr.isEmpty&&Nat.beq f.lo f.hi&&Qn fs
theorem cL:∀{a:List RW},Qn a=true->O3 a
 |[],_=>trivial
 |f::a,h=>by
  simp only[Qn,Zp,List.isEmpty_iff]at h;exact⟨⟨h.1.1,Zm h.1.2⟩,cL h.2⟩
theorem wa (E:Xb)(b:Nat)(a:List Xx)(s:St):Uz E b a s=(match Uy E b 0 a s with |some (s,fs)=>(if Qn fs=true then some s else(if Rl fs=true then some s else none))|none=>none):=by
 unfold Uz;rcases Uy E b 0 a s with _|⟨s1,fs⟩
 ·rfl
 ·show(bif Rl fs then some s1 else none)=(if Qn fs=true then some s1 else(if Rl fs=true then some s1 else none));by_cases c:Qn fs=true
  ·rw[if_pos c,B8 (cL c),cond_true]
  ·rw[if_neg c];cases Rl fs<;>rfl
theorem jJ (n:Nat)(h:HF)(l:PL):XB n h (.p l)=some l:=by cases n<;>rfl
theorem jG (n:Nat)(h:HF)(l:PL):WY n h (.p l)=[]:=by cases n<;>rfl
theorem Cq (a e d b:Nat)(h:HF)(n:Nat)(y:DL):W3 a e d b h n [.one (.p .XJ),.one y]=(match Wt h y with |some (new,ids)=>(bif new.all (fun c=>Nat.beq c.length d)then WK e d b n new ids else none)|none=>none):=by
 simp only[W3];rfl
theorem Cp (a e g f:Nat)(h:HF)(n id XZ d:Nat)(y:DL):W3 a e g f h n [.one (.own id XZ 0 d),.one y]=(match Wt h y with |some (new,ids)=>(bif new.all (fun c=>Nat.beq c.length g)then(match h id with |some b=>(bif Nat.beq b.ch.length d then U1 a e g f id XZ d b new ids else S2 a e g id XZ d b new ids)|none=>none)else none)|none=>none):=by
 simp only[W3];rfl
theorem yW (b e:Type)(f:b->Option e)(x:b)(a:List b):Xt f (x::a)=(match f x with |none=>none|some y=>(match Xt f a with |none=>none|some d=>some (y::d))):=by
 cases h:f x with
 |none=>simp only[Xt,h]
 |some y=>cases c:Xt f a<;>simp only[Xt,h,c]
abbrev Gy:Prop:=(∀(T:List (Nat×DV)),(UD T none=(some true))/\(VK T []=([])))/\
  (∀(T:List (Nat×DV)) (t:Nat) (w:Bool),UD T (some (t,w))=(match Xh T t with |some (.one (.p (.bool b)))=>some (b==w)|some (.XY [])=>some false|_=>none))/\
  (∀(α β:Type) (f:α->Option β),(Xt f []=(some []))/\(List.filterMap f []=([])))/\
  (∀(α β:Type) (f:α->Option β) (x:α) (xs:List α),Xt f (x::xs)=(match f x with |none=>none|some y=>(match Xt f xs with |none=>none|some ys=>some (y::ys))))/\
  (∀(T:List (Nat×DV)) (n:Nat),W8.eval T (.t n)=(Xh T n))/\
  (∀(T:List (Nat×DV)) (v:PV),W8.eval T (.c v)=(some (inj v)))/\
  (∀(l:PL),(inj (.one l)=(.one (.p l)))/\(lD (.one l)=(.one (.p l)))/\((PV.one l).scalar=(l.scalar))/\((PV.one l).OH=(l.scalar)))/\
  (∀(cs:List PL),(inj (.agg cs)=(.agg (cs.map .p)))/\(lD (.agg cs)=(.agg (cs.map .p)))/\((PV.agg cs).scalar=(cs.all PL.scalar))/\((PV.agg cs).OH=(cs.all PL.scalar))/\(PL.scalar (.ref cs)=(false)))/\
  (∀(vs:List PV),(inj (.XY vs)=(.XY (vs.map lD)))/\((PV.XY vs).scalar=(vs.all PV.OH)))/\
  (∀(t:Nat) (v:DV) (T:List (Nat×DV)) (n:Nat),Xh ((t,v)::T) n=(if t=n then some v else Xh T n))/\
  (∀(T:List (Nat×DV)) (k:Nat) (ks:List Nat),VK T (k::ks)=(match Xh T k with |some v=>(k,v)::VK T ks|none=>VK T ks))/\
  (∀(T:List (Nat×DV)) (d:Nat) (v:DV),O4 T (some d) v=((d,v)::T))/\
  (∀(T:List (Nat×DV)) (v:DV),O4 T none v=(T))/\
  (∀(H:List Xz),(VH H []=(H))/\(OB H []=(H)))/\
  (∀(H:List Xz) (i:Nat) (x:Xz) (ws:List (Nat×Xz)),VH H ((i,x)::ws)=(VH (H.set i x) ws))/\
  (∀(H:List Xz) (x:Xz) (xs:List Xz),OB H (x::xs)=(H++x::xs))/\
  (∀(H:List Xz) (i:Nat),Xl H i=(H[i]?))/\
  (∀(E:Xb) (b:Nat) (vs:List DV) (h:HF) (n:Nat),(Wc E b (.move) vs h n=(Nr vs))/\(Wc E b (.nilCheck) vs h n=(Sr vs))/\(Wc E b (.pick) vs h n=(Nq vs))/\(Wc E b (.len) vs h n=(R6 vs))/\(Wc E b (.max) vs h n=(RD T5 vs))/\(Wc E b (.min) vs h n=(RD (fun a b=>T5 b a) vs))/\(Wc E b (.Oc) vs h n=(Tb h vs))/\(Wc E b (.slice3) vs h n=(QE vs))/\(Wc E b (.U3) vs h n=(UY E h vs)))/\
  (∀(E:Xb) (vs:List DV),(XG E (.move) vs=(false))/\(XG E (.nilCheck) vs=(false))/\(XG E (.pick) vs=(false))/\(XG E (.len) vs=(false))/\(XG E (.max) vs=(false))/\(XG E (.min) vs=(false))/\(XG E (.Oc) vs=(false))/\(XG E (.slice3) vs=(false)))/\
  (∀(E:Xb),(Xk E (.move)=(false))/\(Xk E (.nilCheck)=(false))/\(Xk E (.pick)=(false))/\(Xk E (.len)=(false))/\(Xk E (.max)=(false))/\(Xk E (.min)=(false))/\(Xk E (.Oc)=(false))/\(Xk E (.slice3)=(false)))/\
  (∀(E:Xb) (b:Nat) (t:Nat) (vs:List DV) (h:HF) (n:Nat),Wc E b (.box t) vs h n=(ao t n vs))/\
  (∀(E:Xb) (t:Nat) (vs:List DV),XG E (.box t) vs=(false))/\
  (∀(E:Xb) (t:Nat),Xk E (.box t)=(false))/\
  (∀(E:Xb) (b:Nat) (t:Nat) (z:List PL) (vs:List DV) (h:HF) (n:Nat),Wc E b (.alloc t z) vs h n=(R8 t z n vs))/\
  (∀(E:Xb) (t:Nat) (z:List PL) (vs:List DV),XG E (.alloc t z) vs=(false))/\
  (∀(E:Xb) (t:Nat) (z:List PL),Xk E (.alloc t z)=(false))/\
  (∀(E:Xb) (b:Nat) (z:List PL) (pl:List (Nat×Nat)) (vs:List DV) (h:HF) (n:Nat),Wc E b (.build z pl) vs h n=(Ph z pl vs))/\
  (∀(E:Xb) (z:List PL) (pl:List (Nat×Nat)) (vs:List DV),XG E (.build z pl) vs=(false))/\
  (∀(E:Xb) (z:List PL) (pl:List (Nat×Nat)),Xk E (.build z pl)=(false))/\
  (∀(E:Xb) (b:Nat) (e:Nat) (z:List PL) (m:Nat) (pl:List Nat) (vs:List DV) (h:HF) (n:Nat),Wc E b (.buildSlice e z m pl) vs h n=(VR e z m pl n vs))/\
  (∀(E:Xb) (e:Nat) (z:List PL) (m:Nat) (pl:List Nat) (vs:List DV),XG E (.buildSlice e z m pl) vs=(false))/\
  (∀(E:Xb) (e:Nat) (z:List PL) (m:Nat) (pl:List Nat),Xk E (.buildSlice e z m pl)=(false))/\
  (∀(E:Xb) (b:Nat) (a:Bool) (m:Nat) (vs:List DV) (h:HF) (n:Nat),Wc E b (.load a m) vs h n=(Pe a m h vs))/\
  (∀(E:Xb) (a:Bool) (m:Nat) (vs:List DV),XG E (.load a m) vs=(false))/\
  (∀(E:Xb) (a:Bool) (m:Nat),Xk E (.load a m)=(false))/\
  (∀(E:Xb) (b:Nat) (m:Nat) (vs:List DV) (h:HF) (n:Nat),(Wc E b (.store m) vs h n=(R4 b m h vs))/\(Wc E b (.fieldAddr m) vs h n=(Uc m vs))/\(Wc E b (.Pr m) vs h n=(VA m h vs))/\(Wc E b (.extract m) vs h n=(Ss m vs))/\(Wc E b (.yZ m) vs h n=(Ns m vs))/\(Wc E b (.copy m) vs h n=(Pg b m h vs)))/\
  (∀(E:Xb) (m:Nat) (vs:List DV),(XG E (.store m) vs=(false))/\(XG E (.fieldAddr m) vs=(false))/\(XG E (.Pr m) vs=(false))/\(XG E (.extract m) vs=(false))/\(XG E (.yZ m) vs=(false))/\(XG E (.copy m) vs=(false)))/\
  (∀(E:Xb) (m:Nat),(Xk E (.store m)=(false))/\(Xk E (.fieldAddr m)=(false))/\(Xk E (.Pr m)=(false))/\(Xk E (.extract m)=(false))/\(Xk E (.yZ m)=(false))/\(Xk E (.copy m)=(false)))/\
  (∀(E:Xb) (b:Nat) (o:BinOp) (vs:List DV) (h:HF) (n:Nat),Wc E b (.bin o) vs h n=(fw o vs))/\
  (∀(E:Xb) (o:BinOp) (vs:List DV),XG E (.bin o) vs=(false))/\
  (∀(E:Xb) (o:BinOp),Xk E (.bin o)=(false))/\
  (∀(E:Xb) (b:Nat) (q:Bool) (vs:List DV) (h:HF) (n:Nat),(Wc E b (.wC q) vs h n=(Nu q vs))/\(Wc E b (.cq q) vs h n=(VS q vs)))/\
  (∀(E:Xb) (q:Bool) (vs:List DV),(XG E (.wC q) vs=(false))/\(XG E (.cq q) vs=(false)))/\
  (∀(E:Xb) (q:Bool),(Xk E (.wC q)=(false))/\(Xk E (.cq q)=(false)))/\
  (∀(E:Xb) (b:Nat) (q:Bool) (k:IntKind) (m:Nat) (vs:List DV) (h:HF) (n:Nat),Wc E b (.NN q k m) vs h n=(Vl q k m vs))/\
  (∀(E:Xb) (q:Bool) (k:IntKind) (m:Nat) (vs:List DV),XG E (.NN q k m) vs=(false))/\
  (∀(E:Xb) (q:Bool) (k:IntKind) (m:Nat),Xk E (.NN q k m)=(false))/\
  (∀(E:Xb) (b:Nat) (o:UnOp) (vs:List DV) (h:HF) (n:Nat),Wc E b (.un o) vs h n=(fv o vs))/\
  (∀(E:Xb) (o:UnOp) (vs:List DV),XG E (.un o) vs=(false))/\
  (∀(E:Xb) (o:UnOp),Xk E (.un o)=(false))/\
  (∀(E:Xb) (b:Nat) (k:IntKind) (vs:List DV) (h:HF) (n:Nat),Wc E b (.conv k) vs h n=(Nt k vs))/\
  (∀(E:Xb) (k:IntKind) (vs:List DV),XG E (.conv k) vs=(false))/\
  (∀(E:Xb) (k:IntKind),Xk E (.conv k)=(false))/\
  (∀(E:Xb) (b:Nat) (m p:Nat) (vs:List DV) (h:HF) (n:Nat),Wc E b (.fW m p) vs h n=(SM m p vs))/\
  (∀(E:Xb) (m p:Nat) (vs:List DV),XG E (.fW m p) vs=(false))/\
  (∀(E:Xb) (m p:Nat),Xk E (.fW m p)=(false))/\
  (∀(E:Xb) (b:Nat) (m:Nat) (a:Bool) (p:Nat) (vs:List DV) (h:HF) (n:Nat),Wc E b (.fV m a p) vs h n=(TR m a p vs))/\
  (∀(E:Xb) (m:Nat) (a:Bool) (p:Nat) (vs:List DV),XG E (.fV m a p) vs=(false))/\
  (∀(E:Xb) (m:Nat) (a:Bool) (p:Nat),Xk E (.fV m a p)=(false))/\
  (∀(E:Xb) (b:Nat) (a:Bool) (m p:Nat) (vs:List DV) (h:HF) (n:Nat),Wc E b (.field a m p) vs h n=(Pf a m p vs))/\
  (∀(E:Xb) (a:Bool) (m p:Nat) (vs:List DV),XG E (.field a m p) vs=(false))/\
  (∀(E:Xb) (a:Bool) (m p:Nat),Xk E (.field a m p)=(false))/\
  (∀(E:Xb) (b:Nat) (m:Nat) (lo hi:Bool) (vs:List DV) (h:HF) (n:Nat),Wc E b (.slice m lo hi) vs h n=(R5 m lo hi h vs))/\
  (∀(E:Xb) (m:Nat) (lo hi:Bool) (vs:List DV),XG E (.slice m lo hi) vs=(false))/\
  (∀(E:Xb) (m:Nat) (lo hi:Bool),Xk E (.slice m lo hi)=(false))/\
  (∀(E:Xb) (b:Nat) (e m p:Nat) (vs:List DV) (h:HF) (n:Nat),Wc E b (.append e m p) vs h n=(W3 b e m p h n vs))/\
  (∀(E:Xb) (e m p:Nat) (vs:List DV),XG E (.append e m p) vs=(false))/\
  (∀(E:Xb) (e m p:Nat),Xk E (.append e m p)=(false))/\
  (∀(E:Xb) (b:Nat) (e:Nat) (z:List PL) (m:Nat) (vs:List DV) (h:HF) (n:Nat),Wc E b (.makeSlice e z m) vs h n=(Ub e z m n vs))/\
  (∀(E:Xb) (e:Nat) (z:List PL) (m:Nat) (vs:List DV),XG E (.makeSlice e z m) vs=(false))/\
  (∀(E:Xb) (e:Nat) (z:List PL) (m:Nat),Xk E (.makeSlice e z m)=(false))/\
  (∀(E:Xb) (b:Nat) (m:Nat) (a:Bool) (vs:List DV) (h:HF) (n:Nat),Wc E b (.makeMap m a) vs h n=(TA m a n vs))/\
  (∀(E:Xb) (m:Nat) (a:Bool) (vs:List DV),XG E (.makeMap m a) vs=(false))/\
  (∀(E:Xb) (m:Nat) (a:Bool),Xk E (.makeMap m a)=(false))/\
  (∀(E:Xb) (b:Nat) (m:Nat) (k:IntKind) (a:Bool) (z:List PL) (o:Bool) (vs:List DV) (h:HF) (n:Nat),Wc E b (.lookup m k a z o) vs h n=(UL m k a z o h vs))/\
  (∀(E:Xb) (m:Nat) (k:IntKind) (a:Bool) (z:List PL) (o:Bool) (vs:List DV),XG E (.lookup m k a z o) vs=(false))/\
  (∀(E:Xb) (m:Nat) (k:IntKind) (a:Bool) (z:List PL) (o:Bool),Xk E (.lookup m k a z o)=(false))/\
  (∀(E:Xb) (b:Nat) (m:Nat) (k:IntKind) (a:Bool) (p:Nat) (vs:List DV) (h:HF) (n:Nat),Wc E b (.mapUpdate m k a p) vs h n=(Vf m k a p h vs))/\
  (∀(E:Xb) (m:Nat) (k:IntKind) (a:Bool) (p:Nat) (vs:List DV),XG E (.mapUpdate m k a p) vs=(false))/\
  (∀(E:Xb) (m:Nat) (k:IntKind) (a:Bool) (p:Nat),Xk E (.mapUpdate m k a p)=(false))/\
  (∀(E:Xb) (b:Nat) (f:Nat) (vs:List DV) (h:HF) (n:Nat),(Wc E b (.makeFunc f) vs h n=(Uj f vs))/\(Wc E b (.call f) vs h n=(WO E h f vs)))/\
  (∀(E:Xb) (f:Nat) (vs:List DV),(XG E (.makeFunc f) vs=(false))/\(XG E (.call f) vs=(W1 E f)))/\
  (∀(E:Xb) (f:Nat),(Xk E (.makeFunc f)=(false))/\(Xk E (.call f)=(W1 E f))/\(W1 E f=(match E.mode f with | .pure=>false|_=>true)))/\
  (∀(E:Xb) (b:Nat) (z:List PL) (vs:List DV) (h:HF) (n:Nat),Wc E b (.clear z) vs h n=(R7 b z h vs))/\
  (∀(E:Xb) (z:List PL) (vs:List DV),XG E (.clear z) vs=(false))/\
  (∀(E:Xb) (z:List PL),Xk E (.clear z)=(false))/\
  (∀(base sz:Nat) (h:HF) (id XZ off len:Nat) (y:DL),Pg base sz h [.one (.own id XZ off len),.one y]=(match h id with |some b=>(match Wt h y with |some (new,ids)=>Oq base sz id XZ off len b new ids|none=>none)|none=>none))/\
  (∀(x:DV),Nr [x]=(some ⟨x,[],[],[]⟩))/\
  (∀(c:Bool) (x y:DV),Nq [.one (.p (.bool c)),x,y]=(some ⟨bif c then x else y,[],[],[]⟩))/\
  (∀(t n:Nat) (l:DL),ao t n [.one l]=(some ⟨.one (.ptr n 0 0 0),[⟨false,0,1,[[l]],false,t⟩],[],[]⟩))/\
  (∀(t n:Nat) (cs:List DL),ao t n [.agg cs]=(some ⟨.one (.ptr n 0 0 0),[⟨false,0,cs.length,[cs],false,t⟩],[],[]⟩))/\
  (∀(t:Nat) (z:List PL) (n:Nat),R8 t z n []=(some ⟨.one (.ptr n 0 0 0),[⟨false,0,z.length,[z.map .p],false,t⟩],[],[]⟩))/\
  (∀(o:BinOp) (k k2:IntKind) (x y:Int),fw o [.one (.p (.int k x)),.one (.p (.int k2 y))]=(match Wv o k k2 x y with |some d=>some ⟨.one d,[],[],[]⟩|none=>none))/\
  (∀(k:IntKind) (x y:Int),(Wv .add k k x y=(Sd k (Xe k (x+y))))/\(Wv .sub k k x y=(Sd k (Xe k (x-y))))/\(Wv .mul k k x y=(Sd k (Xe k (x*y))))/\(Wv .eql k k x y=(TX (OX x y)))/\(Wv .neq k k x y=(TX (!OX x y)))/\(Wv .lss k k x y=(TX (T5 x y)))/\(Wv .leq k k x y=(TX (wQ x y)))/\(Wv .gtr k k x y=(TX (T5 y x)))/\(Wv .geq k k x y=(TX (wQ y x)))/\(Wv .quo k k x y=(Tx k x y))/\(Wv .rem k k x y=(U9 k x y))/\(Wv .or k k x y=(Sd k (UC k (Nat.lor (WJ k x) (WJ k y)))))/\(Wv .and k k x y=(Sd k (UC k (Nat.land (WJ k x) (WJ k y))))))/\
  (∀(k k2:IntKind) (x y:Int),(Wv .shl k k2 x y=(NM k x y))/\(Wv .shr k k2 x y=(Qr k x y)))/\
  (∀(k:IntKind) (n:Int),(Sd k n=(some (.p (.int k n))))/\(fv .neg [.one (.p (.int k n))]=(some ⟨.one (.p (.int k (Xe k (0-n)))),[],[],[]⟩))/\(PL.scalar (.int k n)=(true)))/\
  (∀(c:Bool),(TX c=(some (.p (.bool c))))/\(fv .not [.one (.p (.bool c))]=(some ⟨.one (.p (.bool (!c))),[],[],[]⟩)))/\
  (∀(k k2:IntKind) (n:Int),Nt k [.one (.p (.int k2 n))]=(some ⟨.one (.p (.int k (Xe k n))),[],[],[]⟩))/\
  (∀(q x y:Bool),Nu q [.one (.p (.bool x)),.one (.p (.bool y))]=(some ⟨.one (.p (.bool ((x==y)!=q))),[],[],[]⟩))/\
  ((R6 [.one (.p .XJ)]=(some ⟨.one (.p (.int .i64 (.ofNat 0))),[],[],[]⟩))/\(Qn []=(true))/\(cF=(.c (.one (.bool false))))/\(cT=(.c (.one (.bool true))))/\(PL.scalar (.XJ)=(true))/\(PL.scalar (.RJ)=(true))/\((!true)=(false))/\((!false)=(true))/\((true==true)=(true))/\((false==false)=(true))/\((true==false)=(false))/\((false==true)=(false))/\((true !=true)=(false))/\((false !=false)=(false))/\((true !=false)=(true))/\((false !=true)=(true)))/\
  (∀(es:List (List PL)),(R6 [.one (.p (.Xv es))]=(some ⟨.one (.p (.int .i64 (.ofNat es.length))),[],[],[]⟩))/\(PL.scalar (.Xv es)=(false)))/\
  (∀(i v o l:Nat),R6 [.one (.own i v o l)]=(some ⟨.one (.p (.int .i64 (.ofNat l))),[],[],[]⟩))/\
  (∀(m:Nat) (cs:List PL),Uc m [.one (.p (.ref cs))]=(bif Nat.ble m cs.length then some ⟨.one (.p (.ref (cs.drop m))),[],[],[]⟩else none))/\
  (∀(m i v j o:Nat),Uc m [.one (.ptr i v j o)]=(some ⟨.one (.ptr i v j (o+m)),[],[],[]⟩))/\
  (∀(m:Nat) (vs:List DV),Ss m [.XY vs]=(match vs[m]? with |some v=>some ⟨v,[],[],[]⟩|none=>none))/\
  (∀(sz:Nat) (h:HF) (es:List (List PL)) (k:IntKind) (i:Nat),VA sz h [.one (.p (.Xv es)),.one (.p (.int k (.ofNat i)))]=(match es[i]? with |some c=>(bif Nat.beq c.length sz then some ⟨.one (.p (.ref c)),[],[],[]⟩else none)|none=>none))/\
  (∀(sz:Nat) (h:HF) (id XZ off len:Nat) (k:IntKind) (i:Nat),VA sz h [.one (.own id XZ off len),.one (.p (.int k (.ofNat i)))]=(match h id with |some b=>(bif Nat.beq b.sz sz&&Nat.blt i len then some ⟨.one (.ptr id XZ (off+i) 0),[],[],[id]⟩else none)|none=>none))/\
  (∀(m p:Nat) (cs:List PL) (k:IntKind) (i:Nat),SM m p [.one (.p (.ref cs)),.one (.p (.int k (.ofNat i)))]=(bif Nat.blt i m&&Nat.ble (i*p) cs.length then some ⟨.one (.p (.ref (cs.drop (i*p)))),[],[],[]⟩else none))/\
  (∀(m p id XZ j o:Nat) (k:IntKind) (i:Nat),SM m p [.one (.ptr id XZ j o),.one (.p (.int k (.ofNat i)))]=(bif Nat.blt i m then some ⟨.one (.ptr id XZ j (o+i*p)),[],[],[]⟩else none))/\
  (∀(a:Bool) (m:Nat) (h:HF) (cs:List PL),Pe a m h [.one (.p (.ref cs))]=(match TC a m (cs.map .p)with |some v=>some ⟨v,[],[],[]⟩|none=>none))/\
  (∀(a:Bool) (m:Nat) (h:HF) (id XZ i off:Nat),Pe a m h [.one (.ptr id XZ i off)]=(match SI h id XZ i with |some c=>(bif Nat.ble off c.length then(match TC a m (c.drop off)with |some v=>some ⟨v,[],[],[id]⟩|none=>none)else none)|none=>none))/\
  (∀(h:HF) (id XZ i:Nat),SI h id XZ i=(match h id with |some b=>(bif Nat.beq b.XZ XZ&& !b.mp then b.ch[i]? else none)|none=>none))/\
  (∀(m:Nat) (c:DL) (cs:List DL),TC false m (c::cs)=(some (.one c)))/\
  (∀(m:Nat) (cs:List DL),TC true m cs=(bif Nat.ble m cs.length then some (.agg (cs.take m))else none))/\
  (∀(b m:Nat) (h:HF) (id XZ i off:Nat) (x:DV),R4 b m h [.one (.ptr id XZ i off),x]=(match h id with |some k=>(match x.cells with |some cs=>Q2 b m id XZ i off k cs|none=>none)|none=>none))/\
  (∀(l:DL),(DV.one l).cells=(some [l]))/\
  (∀(cs:List DL),((DV.agg cs).cells=(some cs))/\(PC cs [] []=(some cs)))/\
  (∀(base sz id XZ i off:Nat) (b:Xz) (cs:List DL),Q2 base sz id XZ i off b cs=(bif Nat.beq b.XZ XZ&& !b.mp&& !b.fz&&Nat.beq cs.length sz&&(Nat.ble base id||Qh cs)then(match b.ch[i]? with |some c=>(bif Nat.ble (off+sz) c.length then some ⟨.XY [],[],[(id,{b with ch:=b.ch.set i (c.take off++cs++c.drop (off+sz))})],[id]⟩else none)|none=>none)else none))/\
  (∀(e:Nat) (z:List PL) (m n:Nat) (k k2:IntKind) (l c:Nat),Ub e z m n [.one (.p (.int k (.ofNat l))),.one (.p (.int k2 (.ofNat c)))]=(bif Nat.ble l c&&Nat.ble (m*c) lim&&Nat.ble c 9223372036854775807 then some ⟨.one (.own n 0 0 l),[⟨false,0,z.length,List.replicate l (z.map .p),false,e⟩],[],[]⟩else none))/\
  (∀(i:Nat) (rd wr af:List Nat) (lo hi:Nat) (fs:List RW),Qn (⟨i,rd,wr,af,lo,hi⟩::fs)=(wr.isEmpty&&Nat.beq lo hi&&Qn fs))/\
  (∀(n:Nat),(cI n=(.int .i64 (.ofNat n)))/\(cN n=(.int .i64 (.negSucc n)))/\(cW n=(.int .u32 (.ofNat n)))/\(cQ n=(.int .u64 (.ofNat n)))/\(cB n=(.int .u8 (.ofNat n)))/\(cC n=(.c (.one (.int .i64 (.ofNat n)))))/\(Ur [] n=([]))/\(Nat.beq n n=(true))/\((n==n)=(true))/\(Nat.ble 0 n=(true))/\(n+0=(n))/\(0+n=(n)))/\
  (∀(d:Nat) (op:aX) (a:List W8),oP d op a=(⟨some d,op,a,none,[]⟩))/\
  (∀(d:Nat) (op:aX) (a:List W8) (af:List Nat),oA d op a af=(⟨some d,op,a,none,af⟩))/\
  (∀(d:Nat) (op:aX) (a:List W8) (g:Nat) (b:Bool) (af:List Nat),oG d op a g b af=(⟨some d,op,a,some (g,b),af⟩))/\
  (∀(op:aX) (a:List W8) (af:List Nat),oN op a af=(⟨none,op,a,none,af⟩))/\
  (∀(d t:Nat),mV d t=(⟨some d,.move,[.t t],none,[]⟩))/\
  (∀(d t:Nat) (af:List Nat),mA d t af=(⟨some d,.move,[.t t],none,af⟩))/\
  (∀(d:Nat) (c:W8),mC d c=(⟨some d,.move,[c],none,[]⟩))/\
  (∀(l:List Xx),(rG l=(.region false l))/\(rD l=(.region true l)))/\
  (∀(x y:XE),sQ x y=(.seq x y))/\
  (∀(α:Type) (a b:α) (h:a=b),Q a h=(b))/\
  (∀(rs:List (Nat×Option (Bool×Nat))) (s:St),rz rs s=(match Xt (WC s) rs with |some ds=>(match Xt (XU (Xl s.H)) ds with |some ps=>some (cM ps)|none=>none)|none=>none))/\
  (∀(v:DV) (vs:List DV) (n:Nat),Ur (v::vs) n=((n,v)::Ur vs (n+1)))/\
  (∀(s:St) (t:Nat),WC s (t,none)=(Xh s.T t))/\
  (∀(s:St) (t:Nat) (a:Bool) (sz:Nat),WC s (t,some (a,sz))=(match Xh s.T t with |some (.one (.ptr id XZ i off))=>(match s.H[id]? with |some b=>(bif Nat.beq b.XZ XZ&& !b.mp then(match b.ch[i]? with |some c=>(bif a then(bif Nat.ble (off+sz) c.length then some (.agg ((c.drop off).take sz))else none)else(match c.drop off with |d::_=>some (.one d)|[]=>none))|none=>none)else none)|none=>none)|_=>none))/\
  (∀(v:PV),cM [v]=(v))/\
  (∀(u v:PV) (r:List PV),cM (u::v::r)=(.XY (u::v::r)))/\
  (∀(h:HF) (l:PL),XU h (.one (.p l))=(some (.one l)))/\
  (∀(h:HF) (id XZ off len:Nat),(XU h (.one (.own id XZ off len))=(match XB 6 h (.own id XZ off len)with |some l=>some (.one l)|none=>none))/\(Wt h (.own id XZ off len)=(match h id with |some b=>(bif Nat.beq b.XZ XZ&& !b.mp&&Nat.ble (off+len) b.ch.length then some ((b.ch.drop off).take len,[id])else none)|none=>none)))/\
  (∀(h:HF) (cs:List DL),(XU h (.agg cs)=(match Xt (XB 6 h) cs with |some cs=>some (.agg cs)|none=>none))/\(Sa h (.agg cs)=(cs.flatMap (WY 6 h))))/\
  (∀(n:Nat) (h:HF) (l:PL),(XB n h (.p l)=(some l))/\(WY n h (.p l)=([])))/\
  (∀(n:Nat) (h:HF) (id XZ off len:Nat),(XB (n+1) h (.own id XZ off len)=(match h id with |some b=>(bif Nat.beq b.XZ XZ&& !b.mp&&Nat.ble (off+len) b.ch.length then(match Xt (Xt (XB n h)) ((b.ch.drop off).take len)with |some es=>some (.Xv es)|none=>none)else none)|none=>none))/\(WY (n+1) h (.own id XZ off len)=(match h id with |some b=>id::((b.ch.drop off).take len).flatMap (fun c=>c.flatMap (WY n h))|none=>[])))/\
  (∀(h:HF) (l:DL),Sa h (.one l)=(WY 6 h l))/\
  (∀(E:Xb) (h:HF) (f:Nat) (vs:List DV),WO E h f vs=(match E.mode f with | .pure=>(match Xt (XU h) vs with |some ps=>(match E.pure f ps with |some r=>(bif(vs.flatMap (Sa h)).isEmpty||r.scalar then some ⟨inj r,[],[],vs.flatMap (Sa h)⟩else some ⟨inj r,[],(vs.flatMap (Sa h)).filterMap (fun id=>(h id).map fun b=>(id,{b with fz:=true})),vs.flatMap (Sa h)⟩)|none=>none)|none=>none)|_=>none))/\
  (∀(b:Bool),(PL.scalar (.bool b)=(true))/\((true&&b)=(b))/\((false&&b)=(false))/\((b&&true)=(b))/\((b&&false)=(false))/\((true||b)=(true))/\((false||b)=(b))/\((b||true)=(true))/\((b||false)=(b)))/\
  (∀(s:List Nat),PL.scalar (.str s)=(true))/\
  (∀(a:Bool) (m p:Nat) (cs:List DL),Pf a m p [.agg cs]=(bif Nat.ble p cs.length then(match TC a m (cs.drop p)with |some v=>some ⟨v,[],[],[]⟩|none=>none)else none))/\
  (∀(z:List PL) (pl:List (Nat×Nat)) (vs:List DV),Ph z pl vs=(match PC (z.map .p) pl vs with |some cs=>some ⟨.agg cs,[],[],[]⟩|none=>none))/\
  (∀(cs:List DL) (off sz:Nat) (ps:List (Nat×Nat)) (v:DV) (vs:List DV),PC cs ((off,sz)::ps) (v::vs)=(match v.cells with |some ds=>(bif Nat.beq ds.length sz&&Nat.ble (off+sz) cs.length then PC (cs.take off++ds++cs.drop (off+sz)) ps vs else none)|none=>none))/\
  (∀(e:Nat) (z:List PL) (m:Nat) (pl:List Nat) (n:Nat) (vs:List DV),VR e z m pl n vs=(match PD z.length (List.replicate m (z.map .p)) pl vs with |some cs=>some ⟨.one (.own n 0 0 m),[⟨false,0,z.length,cs,false,e⟩],[],[]⟩|none=>none))/\
  (∀(sz:Nat) (cs:List (List DL)),PD sz cs [] []=(some cs))/\
  (∀(sz:Nat) (cs:List (List DL)) (i:Nat) (ps:List Nat) (v:DV) (vs:List DV),PD sz cs (i::ps) (v::vs)=(match v.cells with |some ds=>(bif Nat.beq ds.length sz&&Nat.blt i cs.length then PD sz (cs.set i ds) ps vs else none)|none=>none))/\
  (∀(sz:Nat) (lo hi:Bool) (h:HF) (vs:List DV),R5 sz lo hi h vs=(match VO lo hi vs with |some (x,l,u)=>(match WH sz h x l u with |some (d,rd)=>some ⟨.one d,[],[],rd⟩|none=>none)|none=>none))/\
  (∀(x:DL),VO false false [.one x]=(some (x,0,none)))/\
  (∀(x:DL) (k:IntKind) (a:Nat),(VO true false [.one x,.one (.p (.int k (.ofNat a)))]=(some (x,a,none)))/\(VO false true [.one x,.one (.p (.int k (.ofNat a)))]=(some (x,0,some a))))/\
  (∀(x:DL) (k k2:IntKind) (a c:Nat),VO true true [.one x,.one (.p (.int k (.ofNat a))),.one (.p (.int k2 (.ofNat c)))]=(some (x,a,some c)))/\
  (∀(sz:Nat) (h:HF) (es:List (List PL)) (l:Nat),WH sz h (.p (.Xv es)) l none=(bif Nat.ble l es.length&&Nat.ble es.length es.length&&RR sz es[l]? then some (.p (.Xv ((es.take es.length).drop l)),[])else none))/\
  (∀(sz:Nat) (h:HF) (es:List (List PL)) (l u:Nat),WH sz h (.p (.Xv es)) l (some u)=(bif Nat.ble l u&&Nat.ble u es.length&&RR sz es[l]? then some (.p (.Xv ((es.take u).drop l)),[])else none))/\
  (∀(sz:Nat) (h:HF) (l:Nat),WH sz h (.p .XJ) l none=(bif Nat.beq l 0&&Nat.beq 0 0 then some (.p .XJ,[])else none))/\
  (∀(sz:Nat) (h:HF) (l u:Nat),WH sz h (.p .XJ) l (some u)=(bif Nat.beq l 0&&Nat.beq u 0 then some (.p .XJ,[])else none))/\
  (∀(sz:Nat) (c:List PL),RR sz (some c)=(Nat.beq c.length sz))/\
  (∀(sz:Nat),RR sz none=(true))/\
  (∀(base e sz by_:Nat) (h:HF) (n:Nat) (y:DL),W3 base e sz by_ h n [.one (.p .XJ),.one y]=(match Wt h y with |some (new,ids)=>(bif new.all (fun c=>Nat.beq c.length sz)then WK e sz by_ n new ids else none)|none=>none))/\
  (∀(base e sz by_:Nat) (h:HF) (n id XZ len:Nat) (y:DL),W3 base e sz by_ h n [.one (.own id XZ 0 len),.one y]=(match Wt h y with |some (new,ids)=>(bif new.all (fun c=>Nat.beq c.length sz)then(match h id with |some b=>(bif Nat.beq b.ch.length len then U1 base e sz by_ id XZ len b new ids else S2 base e sz id XZ len b new ids)|none=>none)else none)|none=>none))/\
  (∀(base e sz by_ id XZ len:Nat) (b:Xz) (new:List (List DL)) (ids:List Nat),U1 base e sz by_ id XZ len b new ids=(bif Nat.beq b.XZ XZ&& !b.mp&& !b.fz&&Nat.beq b.ch.length len&&Nat.beq b.sz sz&&Nat.beq b.ty e&&Nat.ble base id&&Nat.ble ((len+new.length)*by_) lim&&Nat.ble (len+new.length) 9223372036854775807 then some ⟨.one (.own id (XZ+1) 0 (len+new.length)),[],[(id,{b with XZ:=XZ+1,ch:=b.ch++new})],id::ids⟩else none))/\
  (∀(h:HF),Wt h (.p .XJ)=(some ([],[])))/\
  (∀(h:HF) (es:List (List PL)),Wt h (.p (.Xv es))=(some (es.map (·.map .p),[])))/\
  (∀(α:Type) (x y:α),(cond true x y=(x))/\(cond false x y=(y)))/\
  (∀(α β:Type) (f:α->β),List.map f []=([]))/\
  (∀(α β:Type) (f:α->β) (x:α) (l:List α),List.map f (x::l)=(f x::List.map f l))/\
  (∀(α:Type),(([]:List α).length=(0))/\(([]:List α).isEmpty=(true)))/\
  (∀(α:Type) (x:α) (l:List α),((x::l).length=(l.length+1))/\((x::l)[0]? =(some x))/\((x::l).isEmpty=(false)))/\
  (∀(α:Type) (x:α) (l:List α) (n:Nat),((x::l)[n+1]? =(l[n]?))/\((x::l).take (n+1)=(x::l.take n))/\((x::l).drop (n+1)=(l.drop n)))/\
  (∀(α:Type) (x y:α) (l:List α),(x::l).set 0 y=(y::l))/\
  (∀(α:Type) (x y:α) (l:List α) (n:Nat),(x::l).set (n+1) y=(x::l.set n y))/\
  (∀(α:Type) (x:α) (l m:List α),x::l++m=(x::(l++m)))/\
  (∀(α:Type) (l:List α),([]++l=(l))/\(l++[]=(l))/\(l.take 0=([]))/\(l.drop 0=(l)))/\
  (∀(α:Type) (n:Nat),(([]:List α).take n=([]))/\(([]:List α).drop n=([])))/\
  (∀(α:Type) (p:α->Bool),List.all [] p=(true))/\
  (∀(α:Type) (p:α->Bool) (x:α) (l:List α),List.all (x::l) p=((p x&&List.all l p)))/\
  (∀(α β:Type) (f:α->List β),List.flatMap f []=([]))/\
  (∀(α β:Type) (f:α->List β) (x:α) (l:List α),List.flatMap f (x::l)=(f x++List.flatMap f l))/\
  (∀(α:Type) (x:α),(List.replicate 0 x=([]))/\(List.replicate 1 x=([x]))/\(List.replicate 2 x=([x,x]))/\(List.replicate 3 x=([x,x,x])))/\
  (∀(α β:Type) (f:α->Option β) (x:α) (l:List α),List.filterMap f (x::l)=((match f x with |none=>List.filterMap f l|some b=>b::List.filterMap f l)))/\
  (∀(α β:Type) (f:α->β) (x:α),Option.map f (some x)=(some (f x)))
theorem Tj:Gy:=by
 refine⟨?_,?_,?_,?_,?_,?_,?_,?_,?_,?_,?_,?_,?_,?_,?_,?_,?_,?_,?_,?_,?_,?_,?_,?_,?_,?_,?_,?_,?_,?_,?_,?_,?_,?_,?_,?_,?_,?_,?_,?_,?_,?_,?_,?_,?_,?_,?_,?_,?_,?_,?_,?_,?_,?_,?_,?_,?_,?_,?_,?_,?_,?_,?_,?_,?_,?_,?_,?_,?_,?_,?_,?_,?_,?_,?_,?_,?_,?_,?_,?_,?_,?_,?_,?_,?_,?_,?_,?_,?_,?_,?_,?_,?_,?_,?_,?_,?_,?_,?_,?_,?_,?_,?_,?_,?_,?_,?_,?_,?_,?_,?_,?_,?_,?_,?_,?_,?_,?_,?_,?_,?_,?_,?_,?_,?_,?_,?_,?_,?_,?_,?_,?_,?_,?_,?_,?_,?_,?_,?_,?_,?_,?_,?_,?_,?_,?_,?_,?_,?_,?_,?_,?_,?_,?_,?_,?_,?_,?_,?_,?_,?_,?_,?_,?_,?_,?_,?_,?_,?_,?_,?_,?_,?_,?_,?_,?_,?_,?_,?_,?_,?_,?_,?_,?_,?_⟩<;>intros<;>(repeat' apply And.intro)<;>first |rfl|exact Uv ..|exact yW ..|exact jJ ..|exact jG ..|exact Cq ..|exact Cp ..|(simp only[XD,RH];done)|(simp only[WZ,TQ,QN,NR,aZ,gO];rfl)|(rename_i k _ _;cases k<;>rfl)|(rename_i b;cases b<;>rfl)|exact YG _|exact beq_self_eq_true _|exact ZN _|simp
abbrev Gj (cE:Xb->Nat->Nat->XE->St->Option (Ex×St))(lK:Xb->Nat->Nat->List Nat->XE->Nat->St->Option (Ex×St))(oD:Xb->Nat->Nat->List Xx->St->Option (St×List RW))(oS:Xb->Nat->List Xx->St->Option St)(oR:Xb->Nat->Bool->Xx->St->Option (St×List Nat×List Nat))(dS:Xb->Nat->List Xx->List Xx->St->Option St)(dD:Xb->Nat->List Xx->St->Option St):Prop:=(∀(E:Xb) (K b:Nat) (s:St),(cE E K b .skip s=(some (.normal,s)))/\(cE E K b .ret s=(some (.ret,s))))/\
  (∀(E:Xb) (K b:Nat) (s:St) (ops:List Xx),(cE E K b (.region false ops) s=(match oS E b ops s with |some s=>some (.normal,s)|none=>none))/\(cE E K b (.region true ops) s=(match dD E b ops s with |some s=>some (.normal,s)|none=>none)))/\
  (∀(E:Xb) (K b:Nat) (s:St) (p u:List Xx),cE E K b (.Re p u) s=(match dS E b p u s with |some s=>some (.normal,s)|none=>none))/\
  (∀(E:Xb) (K b:Nat) (s:St) (x y:XE),cE E K b (.seq x y) s=(match cE E K b x s with |some (.normal,s)=>cE E K b y s|r=>r))/\
  (∀(E:Xb) (K b:Nat) (s:St) (c:W8) (x y:XE),cE E K b (.cond c x y) s=(match c.eval s.T with |some (.one (.p (.bool true)))=>cE E K b x s|some (.one (.p (.bool false)))=>cE E K b y s|_=>none))/\
  (∀(E:Xb) (K b:Nat) (s:St) (i:Nat) (x:XE),cE E K b (.block i x) s=(match cE E K b x s with |some (.exit j,s)=>bif j==i then some (.normal,s)else some (.exit j,s)|r=>r))/\
  (∀(E:Xb) (K b:Nat) (s:St) (ks:List Nat) (x:XE),(cE E K b (.loop (.V2 ks x)) s=(lK E K b ks x K ⟨VK s.T ks,s.H⟩))/\(cE E K b (.V2 ks x) s=(cE E K b x ⟨VK s.T ks,s.H⟩)))/\
  (∀(E:Xb) (K b:Nat) (s:St) (x:XE),cE E K b (.scope x) s=(cE E K b x s))/\
  (∀(E:Xb) (K b:Nat) (s:St) (i:Nat),cE E K b (.exit i) s=(some (.exit i,s)))/\
  (∀(E:Xb) (b:Nat) (s:St),oS E b [] s=(some s))/\
  (∀(E:Xb) (b:Nat) (s:St) (o:Xx) (os:List Xx),oS E b (o::os) s=(match oR E b true o s with |some (s,_,_)=>oS E b os s|none=>none))/\
  (∀(E:Xb) (b:Nat) (hp:Bool) (s:St) (dst:Option Nat) (op:aX) (args:List W8) (g:Option (Nat×Bool)) (af:List Nat),oR E b hp ⟨dst,op,args,g,af⟩ s=(match UD s.T g with |none=>none|some false=>some (⟨O4 s.T dst (.XY []),s.H⟩,[],[])|some true=>(match Xt (W8.eval s.T) args with |none=>none|some vs=>bif hp&&XG E op vs then QM E ⟨dst,op,args,g,af⟩ vs s else(match Wc E b op vs (Xl s.H) s.H.length with |some r=>some (⟨O4 s.T dst r.val,OB (VH s.H r.wr) r.al⟩,r.rd,r.wr.map (·.1))|none=>none))))/\
  (∀(E:Xb) (b:Nat) (ops:List Xx) (s:St),dD E b ops s=(match oD E b 0 ops s with |some (s,fs)=>(if Qn fs=true then some s else(if Rl fs=true then some s else none))|none=>none))/\
  (∀(E:Xb) (b:Nat) (p u:List Xx) (s:St),dS E b p u s=(match dD E b p s with |some s=>oS E b u s|none=>none))/\
  (∀(E:Xb) (b i:Nat) (s:St),oD E b i [] s=(some (s,[])))/\
  (∀(E:Xb) (b i:Nat) (o:Xx) (os:List Xx) (s:St),oD E b i (o::os) s=(bif Xk E o.op&& !(os.isEmpty&&TZ o.after i)then none else(match oR E b (Xk E o.op) o s with |some (s1,rd,wr)=>(match oD E b (i+1) os s1 with |some (s2,fs)=>some (s2,⟨i,rd,wr,o.after,s.H.length,s1.H.length⟩::fs)|none=>none)|none=>none)))/\
  (∀(E:Xb) (K nt:Nat) (rs:List (Nat×Option (Bool×Nat))) (c:XE) (args:List PV),UZ E K ⟨nt,rs,c⟩ args=(bif Nat.ble (args.map inj).length nt then(match cE E K 0 c ⟨Ur (args.map inj) 0,[]⟩with |some (.normal,s)=>rz rs s|some (.ret,s)=>rz rs s|_=>none)else none))
theorem Gz:Gj XD Xc Uy Uf WZ Pu Uz:=by
 refine⟨?_,?_,?_,?_,?_,?_,?_,?_,?_,?_,?_,?_,?_,?_,?_,?_,?_⟩<;>intros<;>(repeat' apply And.intro)<;>first |rfl|exact wa ..|exact qV ..|exact yj ..|(simp only[XD,RH];done)|(simp only[WZ,TQ,QN,NR,aZ,gO];rfl)|(rename_i k _ _;cases k<;>rfl)|(rename_i b;cases b<;>rfl)|exact YG _|exact beq_self_eq_true _|exact ZN _|simp
theorem Xp:Gj XD Xc Uy Uf WZ Pu Uz/\Gy:=⟨Gz,Tj⟩
theorem VN:(∀a,Rl a=a.all fun f=>(f.wr.isEmpty&&Nat.beq f.lo f.hi)||a.all fun g=>Oh f g)/\
  (∀f g,Oh f g=(Nat.beq f.i g.i||(f.wr.all (fun id=> !(g.wr.contains id)&&(!(g.rd.contains id)||f.after.contains g.i))&&g.rd.all (fun id=> !(Nat.ble f.lo id&&Nat.ble (id+1) f.hi)||g.after.contains f.i)&&g.wr.all (fun id=> !(Nat.ble f.lo id&&Nat.ble (id+1) f.hi)||g.after.contains f.i))))/\
  (∀(x y:Nat) (l:List Nat),(y::l).contains x=(decide (x=y)||l.contains x))/\(∀x:Nat,([]:List Nat).contains x=false)/\
  (∀(G:List Xz) (y:Xz),(G++[y])[G.length]? =some y)/\(∀(G:List Xz) (x y:Xz),(G++[x,y])[G.length+1]? =some y)/\(∀(G:List Xz) (x y:Xz),(G++[x,y])[G.length]? =some x)/\
  (∀(G:List Xz) (x y:Xz),(G++[x])++[y]=G++[x,y])/\(∀(G:List Xz) (x:Xz),(G++[x]).length=G.length+1)/\(∀(G:List Xz) (x y:Xz),(G++[x,y]).length=G.length+2)/\
  (∀(G:List Xz) (x y:Xz),(G++[x]).set G.length y=G++[y])/\(∀(G:List Xz) (x y z:Xz),(G++[x,y]).set (G.length+1) z=G++[x,z])/\(∀(G:List Xz) (x y z:Xz),(G++[x,y]).set G.length z=G++[z,y])/\
  (∀n:Nat,(n=n+1)=False)/\(∀n:Nat,(n+1=n)=False)/\(∀n:Nat,(n+1<=n)=False)/\(∀n:Nat,(n<=n+1)=True)/\(∀n:Nat,(n=n+2)=False)/\(∀n:Nat,(n+2=n)=False)/\(∀n:Nat,(n+2<=n)=False)/\(∀n:Nat,(n<=n+2)=True)/\(∀n:Nat,(n=n+3)=False)/\(∀n:Nat,(n+3=n)=False)/\(∀n:Nat,(n+3<=n)=False)/\(∀n:Nat,(n<=n+3)=True)/\(∀n:Nat,(n=n+4)=False)/\(∀n:Nat,(n+4=n)=False)/\(∀n:Nat,(n+4<=n)=False)/\(∀n:Nat,(n<=n+4)=True)/\(∀n:Nat,(n<=n)=True):=by
 refine⟨fun _=>rfl,fun _ _=>rfl,fun x y l=> ?_,fun _=>rfl,?_,?_,?_,?_,?_,?_,?_,?_,?_,?_,?_,?_,?_,?_,?_,?_,?_,?_,?_,?_,?_,?_,?_,?_,?_,?_⟩
 ·simp only[List.contains_cons];congr 1
 all_goals intros;first |(simp;done)|(simp only[eq_iff_iff,iff_false,iff_true];omega)
theorem wrap_i64 {a:Nat}(h:a<9223372036854775808):Xe .i64 (.ofNat a)=.ofNat a:=mn h
theorem wrap_u64 (a:Nat):Xe .u64 (.ofNat a)=.ofNat (a%18446744073709551616):=rfl
theorem wrap_u32 (a:Nat):Xe .u32 (.ofNat a)=.ofNat (a%4294967296):=rfl
theorem TK {a b:Nat}(h:b<=a):(Int.ofNat a-Int.ofNat b)=Int.ofNat (a-b):=by simp only[ZA];omega
theorem Wh {a b:Nat}(h:b<=a)(c:a<9223372036854775808):Xe .i64 (.ofNat a-.ofNat b)=.ofNat (a-b):=by
 rw[TK h];exact mn (by omega)
theorem sub_neg {a b:Nat}(h:a<b):(Int.ofNat a-Int.ofNat b)=Int.negSucc (b-a-1):=by
 simp only[ZA,Int.negSucc_eq];omega
theorem OE {a b:Nat}(h:b<=18446744073709551616):Xe .u64 (.ofNat a-.ofNat b)=.ofNat ((a+(18446744073709551616-b))%18446744073709551616):=by
 by_cases c:b<=a
 ·rw[TK c,wrap_u64];congr 1;omega
 ·rw[sub_neg (by omega)];show UC .u64 (WJ .u64 (.negSucc (b-a-1)))=_;have :WJ .u64 (.negSucc (b-a-1))=(a+(18446744073709551616-b))%18446744073709551616:=by
   simp only[WJ,S8];omega
  rw[this];rfl
theorem aS (a b:Nat):Nat.blt a b=decide (a<b):=by
 by_cases h:a<b
 ·rw[PF h];simp[h]
 ·rw[Fm (by omega)];simp[h]
theorem uc (a b:Nat):Nat.ble a b=decide (a<=b):=by
 by_cases h:a<=b
 ·rw[Qf h];simp[h]
 ·rw[CZ (by omega)];simp[h]
theorem ei (a b:Nat):Nat.beq a b=decide (a=b):=by
 by_cases h:a=b
 ·rw[pz h];simp[h]
 ·rw[Fo h];simp[h]
theorem Nx (a b:Nat):T5 (.ofNat a) (.ofNat b)=decide (a<b):=aS a b
theorem zJ (a b:Nat):OX (.ofNat a) (.ofNat b)=decide (a=b):=ei a b
theorem DM (a b:Nat):wQ (.ofNat a) (.ofNat b)=decide (a<=b):=by
 unfold wQ;rw[Nx];by_cases h:a<=b
 ·simp[h,Nat.not_lt.2 h]
 ·simp[h,Nat.lt_of_not_le h]
def pI:Nat->Int
 |0=>.negSucc 0
 |n+1=>.ofNat n
theorem Uo {n:Nat}(h:n<9223372036854775808):Xe .i64 (.ofNat n-.ofNat 1)=pI n:=by
 cases n with
 |zero=>rfl
 |succ n=>exact Wh (by omega) h
theorem Xq:(∀a b,T5 (.ofNat a) (.ofNat b)=decide (a<b))/\(∀a b,T5 (.ofNat a) (.negSucc b)=false)/\(∀a b,T5 (.negSucc a) (.ofNat b)=true)/\
  (∀a b,wQ (.ofNat a) (.ofNat b)=decide (a<=b))/\(∀a b,wQ (.ofNat a) (.negSucc b)=false)/\(∀a b,wQ (.negSucc a) (.ofNat b)=true)/\
  (∀a b,OX (.ofNat a) (.ofNat b)=decide (a=b))/\(∀a b,OX (.ofNat a) (.negSucc b)=false)/\(∀a b,OX (.negSucc a) (.ofNat b)=false)/\(∀a b,OX (.negSucc a) (.negSucc b)=decide (a=b))/\
  (∀a b,Nat.blt a b=decide (a<b))/\(∀a b,Nat.ble a b=decide (a<=b))/\(∀a b,Nat.beq a b=decide (a=b))/\
  (∀a b:Nat,(Int.ofNat a+Int.ofNat b)=Int.ofNat (a+b))/\(∀a b:Nat,(Int.ofNat a*Int.ofNat b)=Int.ofNat (a*b))/\
  (∀a,Xe .u64 (.ofNat a)=.ofNat (a%18446744073709551616))/\(∀a,Xe .u32 (.ofNat a)=.ofNat (a%4294967296))/\
  (∀a,Qr .u64 (.ofNat a) (.ofNat 32)=some (.p (.int .u64 (.ofNat (a / 4294967296)))))/\(∀a,Qr .u64 (.ofNat a) (.ofNat 63)=some (.p (.int .u64 (.ofNat (a / 9223372036854775808)))))/\
  (∀k a b,Tx k (.ofNat a) (.ofNat (b+1))=some (.p (.int k (Xe k (.ofNat (a / (b+1)))))))/\(∀k a b,U9 k (.ofNat a) (.ofNat (b+1))=some (.p (.int k (.ofNat (a%(b+1))))))/\
  (decide True=true)/\(decide False=false)/\((!decide True)=false)/\((!decide False)=true)/\((false=true)=False):=by
 refine⟨Nx,fun _ _=>rfl,fun _ _=>rfl,DM,fun _ _=>rfl,fun _ _=>rfl,zJ,fun _ _=>rfl,fun _ _=>rfl,fun a b=>ei a b,aS,uc,ei,fun _ _=>rfl,fun _ _=>rfl,fun _=>rfl,fun _=>rfl,fun _=>rfl,fun _=>rfl,fun _ _ _=>rfl,fun _ _ _=>rfl,rfl,rfl,rfl,rfl,by simp⟩
structure Xr where
 E0:Xb
 X:Nat->Option W4
 le:∀K,Nk E0 (lift X K E0)
def Xr.E (B:Xr)(K n:Nat):Xb:=ev B.E0 B.X K n
def X0 (B:Xr)(p:Xb->Nat->Prop):Prop:=∃N,∀K n,N<=K->N<=n->p (B.E K n) K
section
variable {B:Xr}{p q:Xb->Nat->Prop}
theorem X0.and (h:X0 B p)(k:X0 B q):X0 B fun E K=>p E K/\q E K:=by
 obtain⟨N,b⟩:=h;obtain⟨M,a⟩:=k;exact⟨max N M,fun K n c d=>⟨b K n (by omega) (by omega),a K n (by omega) (by omega)⟩⟩
theorem X0.mono (h:X0 B p)(k:∀E K,p E K->q E K):X0 B q:=by
 obtain⟨N,c⟩:=h;exact⟨N,fun K n a b=>k _ _ (c K n a b)⟩
theorem X0.of (k:∀K n,p (B.E K n) K):X0 B p:=⟨0,fun K n _ _=>k K n⟩
theorem X0.ge (m:Nat):X0 B fun _ K=>m<=K:=⟨m,fun _ _ h _=>h⟩
theorem X0.all {p:Nat->Xb->Nat->Prop}:∀(n:Nat),(∀i,i<n->X0 B (p i))->X0 B fun E K=>∀i,i<n->p i E K
 |0,_=>X0.of fun _ _ i h=>by omega
 |n+1,h=>by
  refine((X0.all n fun i c=>h i (by omega)).and (h n (by omega))).mono fun E K ⟨a,b⟩ i c=> ?_
  by_cases e:i=n
  ·subst e;exact b
  ·exact a i (by omega)
def Xs (B:Xr)(f:Nat)(a:List PV)(r:PV):Prop:=∃K n,(B.E K n).pure f a=some r
def UA (B:Xr)(f:Nat)(a:List DV)(H:List Xz)(d:DV)(H':List Xz):Prop:=∃K n,(B.E K n).heap f a H=some (d,H')
variable {f:Nat}{a:List PV}{r:PV}{H H':List Xz}{d:DV}{ad:List DV}{xf:W4}
theorem Xr.Cv {K a n m:Nat}(h:K<=a)(k:n<=m):Nk (B.E K n) (B.E a m):=Fj B.E0 B.X B.le h k
theorem Xs.Xi (h:Xs B f a r):X0 B fun E _=>E.pure f a=some r:=by
 obtain⟨K,n,h⟩:=h;exact⟨max K n,fun b m c d=>(B.Cv (by omega) (by omega)).pure f a r h⟩
theorem UA.Xi (h:UA B f ad H d H'):X0 B fun E _=>E.heap f ad H=some (d,H'):=by
 obtain⟨K,n,h⟩:=h;exact⟨max K n,fun a m b c=>(B.Cv (by omega) (by omega)).heap f ad H _ h⟩
theorem Xs.of (c:B.X f=some xf)(h:X0 B fun E K=>UZ E K xf a=some r):Xs B f a r:=by
 obtain⟨N,b⟩:=h;refine⟨N,N+1,?_⟩;show(match B.X f with
  |some xf=>UZ (B.E N N) N xf a
  |none=>(B.E N N).pure f a)=some r
 rw[c];exact b N N (Zh _) (Zh _)
theorem UA.of (b:B.X f=some xf)(h:X0 B fun E K=>VU E K xf ad H=some (d,H')):UA B f ad H d H':=by
 obtain⟨N,a⟩:=h;refine⟨N,N+1,?_⟩;show(match B.X f with
  |some xf=>VU (B.E N N) N xf ad H
  |none=>(B.E N N).heap f ad H)=some (d,H')
 rw[b];exact a N N (Zh _) (Zh _)
theorem UA.base (h:B.E0.heap f ad H=some (d,H')):UA B f ad H d H':=⟨0,0,h⟩
theorem Xr.mode (K n:Nat):(B.E K n).mode=B.E0.mode:=by
 induction n with
 |zero=>rfl
 |succ n a=>exact a
theorem X0.mode:X0 B fun E _=>E.mode=B.E0.mode:=X0.of fun K n=>Xr.mode K n
end
end Go.Ev
namespace Go.Ev
def bU (rs:List (Nat×Option (Bool×Nat)))(s:St):Option (DV×List Xz):=
 match Xt (WC s) rs with
 |some ds=>bif ds.all DV.plain then some (sV ds,s.H)else none
 |none=>none
theorem oI (E:Xb)(K b:Nat)(a:List (Nat×Option (Bool×Nat)))(c:XE)(args:List DV)(H:List Xz):VU E K ⟨b,a,c⟩ args H=(bif Nat.ble args.length b then(match XD E K 0 c ⟨Ur args 0,H⟩with |some (.normal,s)=>bU a s|some (.ret,s)=>bU a s|_=>none)else none):=by
 unfold VU Sv;rw[Oy];cases Nat.ble args.length b with
 |false=>rfl
 |true=>
  simp only[cond_true];rcases XD E K 0 c ⟨Ur args 0,H⟩with _|⟨_|_|_,s⟩
  ·rfl
  ·simp only[bU];cases Xt (WC s) a<;>rfl
  ·rfl
  ·simp only[bU];cases Xt (WC s) a<;>rfl
theorem WR:(∀(E:Xb) (K i:Nat) (h:List (Nat×Option (Bool×Nat))) (c:XE) (args:List DV) (H:List Xz),VU E K ⟨i,h,c⟩ args H=(bif Nat.ble args.length i then(match XD E K 0 c ⟨Ur args 0,H⟩with |some (.normal,s)=>bU h s|some (.ret,s)=>bU h s|_=>none)else none))/\
  (∀(s:St),bU [] s=some (.XY [],s.H))/\
  (∀(s:St) (x:Nat×Option (Bool×Nat)),bU [x] s=(match WC s x with |some d=>bif DV.plain d then some (d,s.H)else none|none=>none))/\
  (∀(s:St) (x y:Nat×Option (Bool×Nat)),bU [x,y] s=(match WC s x with |some d=>(match WC s y with |some e=>bif DV.plain d&&DV.plain e then some (.XY [d,e],s.H)else none|none=>none)|none=>none))/\
  (∀l,DV.plain (.one l)=true)/\(∀l,DV.plain (.agg l)=true)/\
  (∀(E:Xb) (a:Option Nat) (f:Nat) (args:List W8) (g:Option (Nat×Bool)) (j:List Nat) (b:List DV) (s:St),QM E ⟨a,.call f,args,g,j⟩ b s=W7 E a f b s)/\
  (∀(E:Xb) (a:Option Nat) (f:Nat) (b:List DV) (s:St),W7 E a f b s=(match E.mode f with
   | .heap=>(match E.heap f b s.H with
     |some (v,H)=>some (⟨O4 s.T a v,H⟩,[],[])
     |none=>none)
   | .pure=>none)):=by
 refine⟨oI,fun s=>rfl,fun s x=> ?_,fun s x y=> ?_,fun _=>rfl,fun _=>rfl,fun _ _ _ _ _ _ _ _=>rfl,fun E a f b s=> ?_⟩
 ·simp only[bU,Xt];cases WC s x<;>simp[sV]
 ·simp only[bU,Xt];cases WC s x<;>cases WC s y<;>simp[sV]
 ·unfold W7;cases E.mode f with
  |pure=>rfl
  |heap=>cases E.heap f b s.H with
   |none=>rfl
   |some p=>simp only[TQ]
theorem hS:(∀(G L:List Xz),(G++L)[G.length]? =L[0]?)/\(∀(G L:List Xz) (k:Nat),(G++L)[G.length+k]? =L[k]?)/\(∀(G L:List Xz) (k:Nat),(G++L)[G.length+1+k]? =L[1+k]?)/\
  (∀(G L:List Xz) (x:Xz),(G++L).set G.length x=G++L.set 0 x)/\(∀(G L:List Xz) (k:Nat) (x:Xz),(G++L).set (G.length+k) x=G++L.set k x)/\
  (∀(x:Xz) (L:List Xz),(x::L)[0]? =some x)/\(∀(x:Xz) (L:List Xz) (k:Nat),(x::L)[k+1]? =L[k]?)/\(∀(x y:Xz) (L:List Xz),(x::L).set 0 y=y::L)/\(∀(x y:Xz) (L:List Xz) (k:Nat),(x::L).set (k+1) y=x::L.set k y)/\
  (∀(x y:Xz) (L:List Xz),(x::y::L)[1]? =some y)/\(∀(x y z:Xz) (L:List Xz),(x::y::z::L)[2]? =some z)/\(∀(x y z u:Xz) (L:List Xz),(x::y::z::u::L)[3]? =some u)/\
  (∀(x y w:Xz) (L:List Xz),(x::y::L).set 1 w=x::w::L)/\(∀(x y z w:Xz) (L:List Xz),(x::y::z::L).set 2 w=x::y::w::L)/\(∀(x y z u w:Xz) (L:List Xz),(x::y::z::u::L).set 3 w=x::y::z::w::L):=by
 refine⟨fun G L=> ?_,fun G L k=> ?_,fun G L k=> ?_,fun G L x=> ?_,fun G L k x=> ?_,fun _ _=>rfl,fun _ _ _=>rfl,fun _ _ _=>rfl,fun _ _ _ _=>rfl,fun _ _ _=>rfl,fun _ _ _ _=>rfl,fun _ _ _ _ _=>rfl,fun _ _ _ _=>rfl,fun _ _ _ _ _=>rfl,fun _ _ _ _ _ _=>rfl⟩
 ·rw[ZI (Zh _),YM]
 ·rw[ZI (Nat.le_add_right ..),YD]
 ·rw[ZI (by omega)];congr 1;omega
 ·rw[List.set_append_right _ _ (Zh _),YM]
 ·rw[List.set_append_right _ _ (Nat.le_add_right ..),YD]
theorem T7:∃a:Xb->Nat->Nat->XE->St->Option (Ex×St),∃d:Xb->Nat->Nat->List Nat->XE->Nat->St->Option (Ex×St),∃j:Xb->Nat->Nat->List Xx->St->Option (St×List RW),∃m:Xb->Nat->List Xx->St->Option St,∃l:Xb->Nat->Bool->Xx->St->Option (St×List Nat×List Nat),∃h:Xb->Nat->List Xx->List Xx->St->Option St,∃g:Xb->Nat->List Xx->St->Option St,
  a=XD/\d=Xc/\j=Uy/\m=Uf/\l=WZ/\h=Pu/\g=Uz/\(∀(E:Xb) (K b k:Nat) (e:List Nat) (c:XE) (s:St),d E K b e c (k+1) s=(match a E K b c s with |some (.normal,s)=>d E K b e c k ⟨VK s.T e,s.H⟩|r=>r))/\Gj a d j m l h g/\∀(E:Xb) (K i:Nat) (f:List (Nat×Option (Bool×Nat))) (c:XE) (args:List DV) (H:List Xz),VU E K ⟨i,f,c⟩ args H=(bif Nat.ble args.length i then(match a E K 0 c ⟨Ur args 0,H⟩with |some (.normal,s)=>bU f s|some (.ret,s)=>bU f s|_=>none)else none):=by
 refine⟨XD,Xc,Uy,Uf,WZ,Pu,Uz,rfl,rfl,rfl,rfl,rfl,rfl,rfl,?_,Gz,?_⟩<;>intros<;>first |rfl|exact oI ..
end Go.Ev
