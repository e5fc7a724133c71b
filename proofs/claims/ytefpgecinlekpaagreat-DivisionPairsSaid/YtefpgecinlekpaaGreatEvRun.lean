/- The equations by which simp runs the interpreter over symbolic values (written by gen_evrun.py). -/
import Derived.Test.YtefpgecinlekpaaGreatEvTop
set_option maxRecDepth 100000
namespace Go.Ev
def Xc (E:Oracle)(K b:Nat)(ks:List Nat)(c:XCode):Nat->St->Option (Ex×St)
 |0,_=>none
 |k+1,s=>match Xp E K b c s with
  |some (.normal,s)=>Xc E K b ks c k ⟨WI s.T ks,s.H⟩
  |r=>r
theorem loopN_K (E:Oracle)(K b:Nat)(ks:List Nat)(c:XCode):∀(k:Nat) (s:St),loopN (fun s=>Xp E K b (.keep ks c) s) k s=Xc E K b ks c k ⟨WI s.T ks,s.H⟩
 |0,_=>rfl
 |k+1,s=>by
  have e:Xp E K b (.keep ks c) s=Xp E K b c ⟨WI s.T ks,s.H⟩:=by simp only[Xp,TG]
  have ih:=loopN_K E K b ks c k
  simp only[loopN,Xc]
  rw[e]
  rcases Xp E K b c ⟨WI s.T ks,s.H⟩with _|⟨_|_|_,s1⟩
  ·rfl
  ·exact ih s1
  ·rfl
  ·rfl
theorem loop_loopK (E:Oracle)(K b:Nat)(s:St)(ks:List Nat)(c:XCode):Xp E K b (.loop (.keep ks c)) s=Xc E K b ks c K ⟨WI s.T ks,s.H⟩:=by
 simp only[Xp];exact loopN_K E K b ks c K s
def finP (rs:List (Nat×Option (Bool×Nat)))(s:St):Option PV:=
 match Xm (XY s) rs with
 |some ds=>(match Xm (Xy (Xj s.H)) ds with
  |some ps=>some (packP ps)
  |none=>none)
 |none=>none
theorem pureF_eq (E:Oracle)(K nt:Nat)(rs:List (Nat×Option (Bool×Nat)))(c:XCode)(args:List PV):VR E K ⟨nt,rs,c⟩ args=(bif Nat.ble (args.map inj).length nt then(match Xp E K 0 c ⟨Vk (args.map inj) 0,[]⟩with |some (.normal,s)=>finP rs s|some (.ret,s)=>finP rs s|_=>none)else none):=by
 unfold VR UH
 rw[argsK_eq]
 cases Nat.ble (args.map inj).length nt with
 |false=>rfl
 |true=>
  simp only[cond_true]
  rcases Xp E K 0 c ⟨Vk (args.map inj) 0,[]⟩with _|⟨_|_|_,s⟩
  ·rfl
  ·simp only[finP];cases Xm (XY s) rs<;>rfl
  ·rfl
  ·simp only[finP];cases Xm (XY s) rs<;>rfl
def Sd:List Foot->Bool
 |[]=>true
 |f::fs=>f.wr.isEmpty&&Nat.beq f.lo f.hi&&Sd fs
theorem plainB_feet:∀{fs:List Foot},Sd fs=true->PlainFeet fs
 |[],_=>trivial
 |f::fs,h=>by
  simp only[Sd,Zo,List.isEmpty_iff]at h
  exact⟨⟨h.1.1,Zi h.1.2⟩,plainB_feet h.2⟩
theorem evDraw_if (E:Oracle)(b:Nat)(ops:List XOper)(s:St):Vs E b ops s=(match Vr E b 0 ops s with |some (s,fs)=>(if Sd fs=true then some s else(if To fs=true then some s else none))|none=>none):=by
 unfold Vs
 rcases Vr E b 0 ops s with _|⟨s1,fs⟩
 ·rfl
 ·show(bif To fs then some s1 else none)=(if Sd fs=true then some s1 else(if To fs=true then some s1 else none))
  by_cases hp:Sd fs=true
  ·rw[if_pos hp,feet_ok (plainB_feet hp),cond_true]
  ·rw[if_neg hp];cases To fs<;>rfl
theorem frzL0 (n:Nat)(h:HF)(l:PL):Xo n h (.p l)=some l:=by cases n<;>rfl
theorem idsL0 (n:Nat)(h:HF)(l:PL):Wk n h (.p l)=[]:=by cases n<;>rfl
theorem app_nil (base e sz by_:Nat)(h:HF)(n:Nat)(y:DL):Wi base e sz by_ h n [.one (.p .nilS),.one y]=(match XP h y with |some (new,ids)=>(bif new.all (fun c=>Nat.beq c.length sz)then Wf e sz by_ n new ids else none)|none=>none):=by
 simp only[Wi];rfl
theorem app_own (base e sz by_:Nat)(h:HF)(n id ver len:Nat)(y:DL):Wi base e sz by_ h n [.one (.own id ver 0 len),.one y]=(match XP h y with |some (new,ids)=>(bif new.all (fun c=>Nat.beq c.length sz)then(match h id with |some b=>(bif Nat.beq b.ch.length len then VS base e sz by_ id ver len b new ids else Td base e sz id ver len b new ids)|none=>none)else none)|none=>none):=by
 simp only[Wi];rfl
theorem mapO_two (α β:Type)(f:α->Option β)(x:α)(xs:List α):Xm f (x::xs)=(match f x with |none=>none|some y=>(match Xm f xs with |none=>none|some ys=>some (y::ys))):=by
 cases h:f x with
 |none=>simp only[Xm,h]
 |some y=>cases h2:Xm f xs<;>simp only[Xm,h,h2]
abbrev EVq:Prop:=(∀(T:List (Nat×DV)),(Vv T none=(some true))/\(WI T []=([])))/\
  (∀(T:List (Nat×DV)) (t:Nat) (w:Bool),Vv T (some (t,w))=(match Xh T t with |some (.one (.p (.bool b)))=>some (b==w)|some (.tup [])=>some false|_=>none))/\
  (∀(α β:Type) (f:α->Option β),(Xm f []=(some []))/\(List.filterMap f []=([])))/\
  (∀(α β:Type) (f:α->Option β) (x:α) (xs:List α),Xm f (x::xs)=(match f x with |none=>none|some y=>(match Xm f xs with |none=>none|some ys=>some (y::ys))))/\
  (∀(T:List (Nat×DV)) (n:Nat),XOpd.eval T (.t n)=(Xh T n))/\
  (∀(T:List (Nat×DV)) (v:PV),XOpd.eval T (.c v)=(some (inj v)))/\
  (∀(l:PL),(inj (.one l)=(.one (.p l)))/\(inj1 (.one l)=(.one (.p l)))/\((PV.one l).scalar=(l.scalar))/\((PV.one l).scalar1=(l.scalar)))/\
  (∀(cs:List PL),(inj (.agg cs)=(.agg (cs.map .p)))/\(inj1 (.agg cs)=(.agg (cs.map .p)))/\((PV.agg cs).scalar=(cs.all PL.scalar))/\((PV.agg cs).scalar1=(cs.all PL.scalar))/\(PL.scalar (.ref cs)=(false)))/\
  (∀(vs:List PV),(inj (.tup vs)=(.tup (vs.map inj1)))/\((PV.tup vs).scalar=(vs.all PV.scalar1)))/\
  (∀(t:Nat) (v:DV) (T:List (Nat×DV)) (n:Nat),Xh ((t,v)::T) n=(if t=n then some v else Xh T n))/\
  (∀(T:List (Nat×DV)) (k:Nat) (ks:List Nat),WI T (k::ks)=(match Xh T k with |some v=>(k,v)::WI T ks|none=>WI T ks))/\
  (∀(T:List (Nat×DV)) (d:Nat) (v:DV),putT T (some d) v=((d,v)::T))/\
  (∀(T:List (Nat×DV)) (v:DV),putT T none v=(T))/\
  (∀(H:List Blk),(WE H []=(H))/\(addAl H []=(H)))/\
  (∀(H:List Blk) (i:Nat) (x:Blk) (ws:List (Nat×Blk)),WE H ((i,x)::ws)=(WE (H.set i x) ws))/\
  (∀(H:List Blk) (x:Blk) (xs:List Blk),addAl H (x::xs)=(H++x::xs))/\
  (∀(H:List Blk) (i:Nat),Xj H i=(H[i]?))/\
  (∀(E:Oracle) (b:Nat) (vs:List DV) (h:HF) (n:Nat),(XC E b (.move) vs h n=(opMove vs))/\(XC E b (.nilCheck) vs h n=(UD vs))/\(XC E b (.pick) vs h n=(opPick vs))/\(XC E b (.len) vs h n=(opLen vs))/\(XC E b (.max) vs h n=(TD ltF vs))/\(XC E b (.min) vs h n=(TD (fun a b=>ltF b a) vs))/\(XC E b (.lenMap) vs h n=(U1 h vs))/\(XC E b (.slice3) vs h n=(Su vs))/\(XC E b (.callV) vs h n=(Tm E h vs)))/\
  (∀(E:Oracle) (vs:List DV),(Xq E (.move) vs=(false))/\(Xq E (.nilCheck) vs=(false))/\(Xq E (.pick) vs=(false))/\(Xq E (.len) vs=(false))/\(Xq E (.max) vs=(false))/\(Xq E (.min) vs=(false))/\(Xq E (.lenMap) vs=(false))/\(Xq E (.slice3) vs=(false)))/\
  (∀(E:Oracle),(Xf E (.move)=(false))/\(Xf E (.nilCheck)=(false))/\(Xf E (.pick)=(false))/\(Xf E (.len)=(false))/\(Xf E (.max)=(false))/\(Xf E (.min)=(false))/\(Xf E (.lenMap)=(false))/\(Xf E (.slice3)=(false)))/\
  (∀(E:Oracle) (b:Nat) (t:Nat) (vs:List DV) (h:HF) (n:Nat),XC E b (.box t) vs h n=(opBox t n vs))/\
  (∀(E:Oracle) (t:Nat) (vs:List DV),Xq E (.box t) vs=(false))/\
  (∀(E:Oracle) (t:Nat),Xf E (.box t)=(false))/\
  (∀(E:Oracle) (b:Nat) (t:Nat) (z:List PL) (vs:List DV) (h:HF) (n:Nat),XC E b (.alloc t z) vs h n=(TW t z n vs))/\
  (∀(E:Oracle) (t:Nat) (z:List PL) (vs:List DV),Xq E (.alloc t z) vs=(false))/\
  (∀(E:Oracle) (t:Nat) (z:List PL),Xf E (.alloc t z)=(false))/\
  (∀(E:Oracle) (b:Nat) (z:List PL) (pl:List (Nat×Nat)) (vs:List DV) (h:HF) (n:Nat),XC E b (.build z pl) vs h n=(SZ z pl vs))/\
  (∀(E:Oracle) (z:List PL) (pl:List (Nat×Nat)) (vs:List DV),Xq E (.build z pl) vs=(false))/\
  (∀(E:Oracle) (z:List PL) (pl:List (Nat×Nat)),Xf E (.build z pl)=(false))/\
  (∀(E:Oracle) (b:Nat) (e:Nat) (z:List PL) (m:Nat) (pl:List Nat) (vs:List DV) (h:HF) (n:Nat),XC E b (.buildSlice e z m pl) vs h n=(WO e z m pl n vs))/\
  (∀(E:Oracle) (e:Nat) (z:List PL) (m:Nat) (pl:List Nat) (vs:List DV),Xq E (.buildSlice e z m pl) vs=(false))/\
  (∀(E:Oracle) (e:Nat) (z:List PL) (m:Nat) (pl:List Nat),Xf E (.buildSlice e z m pl)=(false))/\
  (∀(E:Oracle) (b:Nat) (a:Bool) (m:Nat) (vs:List DV) (h:HF) (n:Nat),XC E b (.load a m) vs h n=(SV a m h vs))/\
  (∀(E:Oracle) (a:Bool) (m:Nat) (vs:List DV),Xq E (.load a m) vs=(false))/\
  (∀(E:Oracle) (a:Bool) (m:Nat),Xf E (.load a m)=(false))/\
  (∀(E:Oracle) (b:Nat) (m:Nat) (vs:List DV) (h:HF) (n:Nat),(XC E b (.store m) vs h n=(TT b m h vs))/\(XC E b (.fieldAddr m) vs h n=(W7 m vs))/\(XC E b (.indexS m) vs h n=(Wz m h vs))/\(XC E b (.extract m) vs h n=(UF m vs))/\(XC E b (.lenA m) vs h n=(opLenA m vs))/\(XC E b (.copy m) vs h n=(SY b m h vs)))/\
  (∀(E:Oracle) (m:Nat) (vs:List DV),(Xq E (.store m) vs=(false))/\(Xq E (.fieldAddr m) vs=(false))/\(Xq E (.indexS m) vs=(false))/\(Xq E (.extract m) vs=(false))/\(Xq E (.lenA m) vs=(false))/\(Xq E (.copy m) vs=(false)))/\
  (∀(E:Oracle) (m:Nat),(Xf E (.store m)=(false))/\(Xf E (.fieldAddr m)=(false))/\(Xf E (.indexS m)=(false))/\(Xf E (.extract m)=(false))/\(Xf E (.lenA m)=(false))/\(Xf E (.copy m)=(false)))/\
  (∀(E:Oracle) (b:Nat) (o:BinOp) (vs:List DV) (h:HF) (n:Nat),XC E b (.bin o) vs h n=(opBin o vs))/\
  (∀(E:Oracle) (o:BinOp) (vs:List DV),Xq E (.bin o) vs=(false))/\
  (∀(E:Oracle) (o:BinOp),Xf E (.bin o)=(false))/\
  (∀(E:Oracle) (b:Nat) (q:Bool) (vs:List DV) (h:HF) (n:Nat),(XC E b (.binB q) vs h n=(opBinB q vs))/\(XC E b (.binNil q) vs h n=(Vf q vs)))/\
  (∀(E:Oracle) (q:Bool) (vs:List DV),(Xq E (.binB q) vs=(false))/\(Xq E (.binNil q) vs=(false)))/\
  (∀(E:Oracle) (q:Bool),(Xf E (.binB q)=(false))/\(Xf E (.binNil q)=(false)))/\
  (∀(E:Oracle) (b:Nat) (q:Bool) (k:IntKind) (m:Nat) (vs:List DV) (h:HF) (n:Nat),XC E b (.binAgg q k m) vs h n=(Vg q k m vs))/\
  (∀(E:Oracle) (q:Bool) (k:IntKind) (m:Nat) (vs:List DV),Xq E (.binAgg q k m) vs=(false))/\
  (∀(E:Oracle) (q:Bool) (k:IntKind) (m:Nat),Xf E (.binAgg q k m)=(false))/\
  (∀(E:Oracle) (b:Nat) (o:UnOp) (vs:List DV) (h:HF) (n:Nat),XC E b (.un o) vs h n=(opUn o vs))/\
  (∀(E:Oracle) (o:UnOp) (vs:List DV),Xq E (.un o) vs=(false))/\
  (∀(E:Oracle) (o:UnOp),Xf E (.un o)=(false))/\
  (∀(E:Oracle) (b:Nat) (k:IntKind) (vs:List DV) (h:HF) (n:Nat),XC E b (.conv k) vs h n=(opConv k vs))/\
  (∀(E:Oracle) (k:IntKind) (vs:List DV),Xq E (.conv k) vs=(false))/\
  (∀(E:Oracle) (k:IntKind),Xf E (.conv k)=(false))/\
  (∀(E:Oracle) (b:Nat) (m p:Nat) (vs:List DV) (h:HF) (n:Nat),XC E b (.indexA m p) vs h n=(U2 m p vs))/\
  (∀(E:Oracle) (m p:Nat) (vs:List DV),Xq E (.indexA m p) vs=(false))/\
  (∀(E:Oracle) (m p:Nat),Xf E (.indexA m p)=(false))/\
  (∀(E:Oracle) (b:Nat) (m:Nat) (a:Bool) (p:Nat) (vs:List DV) (h:HF) (n:Nat),XC E b (.indexV m a p) vs h n=(Up m a p vs))/\
  (∀(E:Oracle) (m:Nat) (a:Bool) (p:Nat) (vs:List DV),Xq E (.indexV m a p) vs=(false))/\
  (∀(E:Oracle) (m:Nat) (a:Bool) (p:Nat),Xf E (.indexV m a p)=(false))/\
  (∀(E:Oracle) (b:Nat) (a:Bool) (m p:Nat) (vs:List DV) (h:HF) (n:Nat),XC E b (.field a m p) vs h n=(SX a m p vs))/\
  (∀(E:Oracle) (a:Bool) (m p:Nat) (vs:List DV),Xq E (.field a m p) vs=(false))/\
  (∀(E:Oracle) (a:Bool) (m p:Nat),Xf E (.field a m p)=(false))/\
  (∀(E:Oracle) (b:Nat) (m:Nat) (lo hi:Bool) (vs:List DV) (h:HF) (n:Nat),XC E b (.slice m lo hi) vs h n=(TU m lo hi h vs))/\
  (∀(E:Oracle) (m:Nat) (lo hi:Bool) (vs:List DV),Xq E (.slice m lo hi) vs=(false))/\
  (∀(E:Oracle) (m:Nat) (lo hi:Bool),Xf E (.slice m lo hi)=(false))/\
  (∀(E:Oracle) (b:Nat) (e m p:Nat) (vs:List DV) (h:HF) (n:Nat),XC E b (.append e m p) vs h n=(Wi b e m p h n vs))/\
  (∀(E:Oracle) (e m p:Nat) (vs:List DV),Xq E (.append e m p) vs=(false))/\
  (∀(E:Oracle) (e m p:Nat),Xf E (.append e m p)=(false))/\
  (∀(E:Oracle) (b:Nat) (e:Nat) (z:List PL) (m:Nat) (vs:List DV) (h:HF) (n:Nat),XC E b (.makeSlice e z m) vs h n=(W6 e z m n vs))/\
  (∀(E:Oracle) (e:Nat) (z:List PL) (m:Nat) (vs:List DV),Xq E (.makeSlice e z m) vs=(false))/\
  (∀(E:Oracle) (e:Nat) (z:List PL) (m:Nat),Xf E (.makeSlice e z m)=(false))/\
  (∀(E:Oracle) (b:Nat) (m:Nat) (a:Bool) (vs:List DV) (h:HF) (n:Nat),XC E b (.makeMap m a) vs h n=(UE m a n vs))/\
  (∀(E:Oracle) (m:Nat) (a:Bool) (vs:List DV),Xq E (.makeMap m a) vs=(false))/\
  (∀(E:Oracle) (m:Nat) (a:Bool),Xf E (.makeMap m a)=(false))/\
  (∀(E:Oracle) (b:Nat) (m:Nat) (k:IntKind) (a:Bool) (z:List PL) (o:Bool) (vs:List DV) (h:HF) (n:Nat),XC E b (.lookup m k a z o) vs h n=(TE m k a z o h vs))/\
  (∀(E:Oracle) (m:Nat) (k:IntKind) (a:Bool) (z:List PL) (o:Bool) (vs:List DV),Xq E (.lookup m k a z o) vs=(false))/\
  (∀(E:Oracle) (m:Nat) (k:IntKind) (a:Bool) (z:List PL) (o:Bool),Xf E (.lookup m k a z o)=(false))/\
  (∀(E:Oracle) (b:Nat) (m:Nat) (k:IntKind) (a:Bool) (p:Nat) (vs:List DV) (h:HF) (n:Nat),XC E b (.mapUpdate m k a p) vs h n=(VG m k a p h vs))/\
  (∀(E:Oracle) (m:Nat) (k:IntKind) (a:Bool) (p:Nat) (vs:List DV),Xq E (.mapUpdate m k a p) vs=(false))/\
  (∀(E:Oracle) (m:Nat) (k:IntKind) (a:Bool) (p:Nat),Xf E (.mapUpdate m k a p)=(false))/\
  (∀(E:Oracle) (b:Nat) (f:Nat) (vs:List DV) (h:HF) (n:Nat),(XC E b (.makeFunc f) vs h n=(VH f vs))/\(XC E b (.call f) vs h n=(Wx E h f vs)))/\
  (∀(E:Oracle) (f:Nat) (vs:List DV),(Xq E (.makeFunc f) vs=(false))/\(Xq E (.call f) vs=(Vu E f)))/\
  (∀(E:Oracle) (f:Nat),(Xf E (.makeFunc f)=(false))/\(Xf E (.call f)=(Vu E f))/\(Vu E f=(match E.mode f with | .pure=>false|_=>true)))/\
  (∀(E:Oracle) (b:Nat) (z:List PL) (vs:List DV) (h:HF) (n:Nat),XC E b (.clear z) vs h n=(TV b z h vs))/\
  (∀(E:Oracle) (z:List PL) (vs:List DV),Xq E (.clear z) vs=(false))/\
  (∀(E:Oracle) (z:List PL),Xf E (.clear z)=(false))/\
  (∀(base sz:Nat) (h:HF) (id ver off len:Nat) (y:DL),SY base sz h [.one (.own id ver off len),.one y]=(match h id with |some b=>(match XP h y with |some (new,ids)=>copyIn base sz id ver off len b new ids|none=>none)|none=>none))/\
  (∀(x:DV),opMove [x]=(some ⟨x,[],[],[]⟩))/\
  (∀(c:Bool) (x y:DV),opPick [.one (.p (.bool c)),x,y]=(some ⟨bif c then x else y,[],[],[]⟩))/\
  (∀(t n:Nat) (l:DL),opBox t n [.one l]=(some ⟨.one (.ptr n 0 0 0),[⟨false,0,1,[[l]],false,t⟩],[],[]⟩))/\
  (∀(t n:Nat) (cs:List DL),opBox t n [.agg cs]=(some ⟨.one (.ptr n 0 0 0),[⟨false,0,cs.length,[cs],false,t⟩],[],[]⟩))/\
  (∀(t:Nat) (z:List PL) (n:Nat),TW t z n []=(some ⟨.one (.ptr n 0 0 0),[⟨false,0,z.length,[z.map .p],false,t⟩],[],[]⟩))/\
  (∀(o:BinOp) (k k2:IntKind) (x y:Int),opBin o [.one (.p (.int k x)),.one (.p (.int k2 y))]=(match XQ o k k2 x y with |some d=>some ⟨.one d,[],[],[]⟩|none=>none))/\
  (∀(k:IntKind) (x y:Int),(XQ .add k k x y=(Uy k (Xd k (x+y))))/\(XQ .sub k k x y=(Uy k (Xd k (x-y))))/\(XQ .mul k k x y=(Uy k (Xd k (x*y))))/\(XQ .eql k k x y=(Ut (eqF x y)))/\(XQ .neq k k x y=(Ut (!eqF x y)))/\(XQ .lss k k x y=(Ut (ltF x y)))/\(XQ .leq k k x y=(Ut (leF x y)))/\(XQ .gtr k k x y=(Ut (ltF y x)))/\(XQ .geq k k x y=(Ut (leF y x)))/\(XQ .quo k k x y=(V8 k x y))/\(XQ .rem k k x y=(VX k x y))/\(XQ .or k k x y=(Uy k (Vt k (Nat.lor (X4 k x) (X4 k y)))))/\(XQ .and k k x y=(Uy k (Vt k (Nat.land (X4 k x) (X4 k y))))))/\
  (∀(k k2:IntKind) (x y:Int),(XQ .shl k k2 x y=(binShl k x y))/\(XQ .shr k k2 x y=(Sh k x y)))/\
  (∀(k:IntKind) (n:Int),(Uy k n=(some (.p (.int k n))))/\(opUn .neg [.one (.p (.int k n))]=(some ⟨.one (.p (.int k (Xd k (0-n)))),[],[],[]⟩))/\(PL.scalar (.int k n)=(true)))/\
  (∀(c:Bool),(Ut c=(some (.p (.bool c))))/\(opUn .not [.one (.p (.bool c))]=(some ⟨.one (.p (.bool (!c))),[],[],[]⟩)))/\
  (∀(k k2:IntKind) (n:Int),opConv k [.one (.p (.int k2 n))]=(some ⟨.one (.p (.int k (Xd k n))),[],[],[]⟩))/\
  (∀(q x y:Bool),opBinB q [.one (.p (.bool x)),.one (.p (.bool y))]=(some ⟨.one (.p (.bool ((x==y)!=q))),[],[],[]⟩))/\
  ((opLen [.one (.p .nilS)]=(some ⟨.one (.p (.int .i64 (.ofNat 0))),[],[],[]⟩))/\(Sd []=(true))/\(cF=(.c (.one (.bool false))))/\(cT=(.c (.one (.bool true))))/\(PL.scalar (.nilS)=(true))/\(PL.scalar (.junk)=(true))/\((!true)=(false))/\((!false)=(true))/\((true==true)=(true))/\((false==false)=(true))/\((true==false)=(false))/\((false==true)=(false))/\((true !=true)=(false))/\((false !=false)=(false))/\((true !=false)=(true))/\((false !=true)=(true)))/\
  (∀(es:List (List PL)),(opLen [.one (.p (.lst es))]=(some ⟨.one (.p (.int .i64 (.ofNat es.length))),[],[],[]⟩))/\(PL.scalar (.lst es)=(false)))/\
  (∀(i v o l:Nat),opLen [.one (.own i v o l)]=(some ⟨.one (.p (.int .i64 (.ofNat l))),[],[],[]⟩))/\
  (∀(m:Nat) (cs:List PL),W7 m [.one (.p (.ref cs))]=(bif Nat.ble m cs.length then some ⟨.one (.p (.ref (cs.drop m))),[],[],[]⟩else none))/\
  (∀(m i v j o:Nat),W7 m [.one (.ptr i v j o)]=(some ⟨.one (.ptr i v j (o+m)),[],[],[]⟩))/\
  (∀(m:Nat) (vs:List DV),UF m [.tup vs]=(match vs[m]? with |some v=>some ⟨v,[],[],[]⟩|none=>none))/\
  (∀(sz:Nat) (h:HF) (es:List (List PL)) (k:IntKind) (i:Nat),Wz sz h [.one (.p (.lst es)),.one (.p (.int k (.ofNat i)))]=(match es[i]? with |some c=>(bif Nat.beq c.length sz then some ⟨.one (.p (.ref c)),[],[],[]⟩else none)|none=>none))/\
  (∀(sz:Nat) (h:HF) (id ver off len:Nat) (k:IntKind) (i:Nat),Wz sz h [.one (.own id ver off len),.one (.p (.int k (.ofNat i)))]=(match h id with |some b=>(bif Nat.beq b.sz sz&&Nat.blt i len then some ⟨.one (.ptr id ver (off+i) 0),[],[],[id]⟩else none)|none=>none))/\
  (∀(m p:Nat) (cs:List PL) (k:IntKind) (i:Nat),U2 m p [.one (.p (.ref cs)),.one (.p (.int k (.ofNat i)))]=(bif Nat.blt i m&&Nat.ble (i*p) cs.length then some ⟨.one (.p (.ref (cs.drop (i*p)))),[],[],[]⟩else none))/\
  (∀(m p id ver j o:Nat) (k:IntKind) (i:Nat),U2 m p [.one (.ptr id ver j o),.one (.p (.int k (.ofNat i)))]=(bif Nat.blt i m then some ⟨.one (.ptr id ver j (o+i*p)),[],[],[]⟩else none))/\
  (∀(a:Bool) (m:Nat) (h:HF) (cs:List PL),SV a m h [.one (.p (.ref cs))]=(match Uc a m (cs.map .p)with |some v=>some ⟨v,[],[],[]⟩|none=>none))/\
  (∀(a:Bool) (m:Nat) (h:HF) (id ver i off:Nat),SV a m h [.one (.ptr id ver i off)]=(match UU h id ver i with |some c=>(bif Nat.ble off c.length then(match Uc a m (c.drop off)with |some v=>some ⟨v,[],[],[id]⟩|none=>none)else none)|none=>none))/\
  (∀(h:HF) (id ver i:Nat),UU h id ver i=(match h id with |some b=>(bif Nat.beq b.ver ver&& !b.mp then b.ch[i]? else none)|none=>none))/\
  (∀(m:Nat) (c:DL) (cs:List DL),Uc false m (c::cs)=(some (.one c)))/\
  (∀(m:Nat) (cs:List DL),Uc true m cs=(bif Nat.ble m cs.length then some (.agg (cs.take m))else none))/\
  (∀(b m:Nat) (h:HF) (id ver i off:Nat) (x:DV),TT b m h [.one (.ptr id ver i off),x]=(match h id with |some k=>(match x.cells with |some cs=>SK b m id ver i off k cs|none=>none)|none=>none))/\
  (∀(l:DL),(DV.one l).cells=(some [l]))/\
  (∀(cs:List DL),((DV.agg cs).cells=(some cs))/\(fillD cs [] []=(some cs)))/\
  (∀(base sz id ver i off:Nat) (b:Blk) (cs:List DL),SK base sz id ver i off b cs=(bif Nat.beq b.ver ver&& !b.mp&& !b.fz&&Nat.beq cs.length sz&&(Nat.ble base id||Sa cs)then(match b.ch[i]? with |some c=>(bif Nat.ble (off+sz) c.length then some ⟨.tup [],[],[(id,{b with ch:=b.ch.set i (c.take off++cs++c.drop (off+sz))})],[id]⟩else none)|none=>none)else none))/\
  (∀(e:Nat) (z:List PL) (m n:Nat) (k k2:IntKind) (l c:Nat),W6 e z m n [.one (.p (.int k (.ofNat l))),.one (.p (.int k2 (.ofNat c)))]=(bif Nat.ble l c&&Nat.ble (m*c) lim&&Nat.ble c 9223372036854775807 then some ⟨.one (.own n 0 0 l),[⟨false,0,z.length,List.replicate l (z.map .p),false,e⟩],[],[]⟩else none))/\
  (∀(i:Nat) (rd wr af:List Nat) (lo hi:Nat) (fs:List Foot),Sd (⟨i,rd,wr,af,lo,hi⟩::fs)=(wr.isEmpty&&Nat.beq lo hi&&Sd fs))/\
  (∀(n:Nat),(cI n=(.int .i64 (.ofNat n)))/\(cN n=(.int .i64 (.negSucc n)))/\(cW n=(.int .u32 (.ofNat n)))/\(cQ n=(.int .u64 (.ofNat n)))/\(cB n=(.int .u8 (.ofNat n)))/\(cC n=(.c (.one (.int .i64 (.ofNat n)))))/\(Vk [] n=([]))/\(Nat.beq n n=(true))/\((n==n)=(true))/\(Nat.ble 0 n=(true))/\(n+0=(n))/\(0+n=(n)))/\
  (∀(d:Nat) (op:XOp) (a:List XOpd),oP d op a=(⟨some d,op,a,none,[]⟩))/\
  (∀(d:Nat) (op:XOp) (a:List XOpd) (af:List Nat),oA d op a af=(⟨some d,op,a,none,af⟩))/\
  (∀(d:Nat) (op:XOp) (a:List XOpd) (g:Nat) (b:Bool) (af:List Nat),oG d op a g b af=(⟨some d,op,a,some (g,b),af⟩))/\
  (∀(op:XOp) (a:List XOpd) (af:List Nat),oN op a af=(⟨none,op,a,none,af⟩))/\
  (∀(d t:Nat),mV d t=(⟨some d,.move,[.t t],none,[]⟩))/\
  (∀(d t:Nat) (af:List Nat),mA d t af=(⟨some d,.move,[.t t],none,af⟩))/\
  (∀(d:Nat) (c:XOpd),mC d c=(⟨some d,.move,[c],none,[]⟩))/\
  (∀(l:List XOper),(rG l=(.region false l))/\(rD l=(.region true l)))/\
  (∀(x y:XCode),sQ x y=(.seq x y))/\
  (∀(rs:List (Nat×Option (Bool×Nat))) (s:St),finP rs s=(match Xm (XY s) rs with |some ds=>(match Xm (Xy (Xj s.H)) ds with |some ps=>some (packP ps)|none=>none)|none=>none))/\
  (∀(v:DV) (vs:List DV) (n:Nat),Vk (v::vs) n=((n,v)::Vk vs (n+1)))/\
  (∀(s:St) (t:Nat),XY s (t,none)=(Xh s.T t))/\
  (∀(s:St) (t:Nat) (a:Bool) (sz:Nat),XY s (t,some (a,sz))=(match Xh s.T t with |some (.one (.ptr id ver i off))=>(match s.H[id]? with |some b=>(bif Nat.beq b.ver ver&& !b.mp then(match b.ch[i]? with |some c=>(bif a then(bif Nat.ble (off+sz) c.length then some (.agg ((c.drop off).take sz))else none)else(match c.drop off with |d::_=>some (.one d)|[]=>none))|none=>none)else none)|none=>none)|_=>none))/\
  (∀(v:PV),packP [v]=(v))/\
  (∀(u v:PV) (r:List PV),packP (u::v::r)=(.tup (u::v::r)))/\
  (∀(h:HF) (l:PL),Xy h (.one (.p l))=(some (.one l)))/\
  (∀(h:HF) (id ver off len:Nat),(Xy h (.one (.own id ver off len))=(match Xo 6 h (.own id ver off len)with |some l=>some (.one l)|none=>none))/\(XP h (.own id ver off len)=(match h id with |some b=>(bif Nat.beq b.ver ver&& !b.mp&&Nat.ble (off+len) b.ch.length then some ((b.ch.drop off).take len,[id])else none)|none=>none)))/\
  (∀(h:HF) (cs:List DL),(Xy h (.agg cs)=(match Xm (Xo 6 h) cs with |some cs=>some (.agg cs)|none=>none))/\(Th h (.agg cs)=(cs.flatMap (Wk 6 h))))/\
  (∀(n:Nat) (h:HF) (l:PL),(Xo n h (.p l)=(some l))/\(Wk n h (.p l)=([])))/\
  (∀(n:Nat) (h:HF) (id ver off len:Nat),(Xo (n+1) h (.own id ver off len)=(match h id with |some b=>(bif Nat.beq b.ver ver&& !b.mp&&Nat.ble (off+len) b.ch.length then(match Xm (Xm (Xo n h)) ((b.ch.drop off).take len)with |some es=>some (.lst es)|none=>none)else none)|none=>none))/\(Wk (n+1) h (.own id ver off len)=(match h id with |some b=>id::((b.ch.drop off).take len).flatMap (fun c=>c.flatMap (Wk n h))|none=>[])))/\
  (∀(h:HF) (l:DL),Th h (.one l)=(Wk 6 h l))/\
  (∀(E:Oracle) (h:HF) (f:Nat) (vs:List DV),Wx E h f vs=(match E.mode f with | .pure=>(match Xm (Xy h) vs with |some ps=>(match E.pure f ps with |some r=>(bif(vs.flatMap (Th h)).isEmpty||r.scalar then some ⟨inj r,[],[],vs.flatMap (Th h)⟩else some ⟨inj r,[],(vs.flatMap (Th h)).filterMap (fun id=>(h id).map fun b=>(id,{b with fz:=true})),vs.flatMap (Th h)⟩)|none=>none)|none=>none)|_=>none))/\
  (∀(b:Bool),(PL.scalar (.bool b)=(true))/\((true&&b)=(b))/\((false&&b)=(false))/\((b&&true)=(b))/\((b&&false)=(false))/\((true||b)=(true))/\((false||b)=(b))/\((b||true)=(true))/\((b||false)=(b)))/\
  (∀(s:List Nat),PL.scalar (.str s)=(true))/\
  (∀(a:Bool) (m p:Nat) (cs:List DL),SX a m p [.agg cs]=(bif Nat.ble p cs.length then(match Uc a m (cs.drop p)with |some v=>some ⟨v,[],[],[]⟩|none=>none)else none))/\
  (∀(z:List PL) (pl:List (Nat×Nat)) (vs:List DV),SZ z pl vs=(match fillD (z.map .p) pl vs with |some cs=>some ⟨.agg cs,[],[],[]⟩|none=>none))/\
  (∀(cs:List DL) (off sz:Nat) (ps:List (Nat×Nat)) (v:DV) (vs:List DV),fillD cs ((off,sz)::ps) (v::vs)=(match v.cells with |some ds=>(bif Nat.beq ds.length sz&&Nat.ble (off+sz) cs.length then fillD (cs.take off++ds++cs.drop (off+sz)) ps vs else none)|none=>none))/\
  (∀(e:Nat) (z:List PL) (m:Nat) (pl:List Nat) (n:Nat) (vs:List DV),WO e z m pl n vs=(match fillC z.length (List.replicate m (z.map .p)) pl vs with |some cs=>some ⟨.one (.own n 0 0 m),[⟨false,0,z.length,cs,false,e⟩],[],[]⟩|none=>none))/\
  (∀(sz:Nat) (cs:List (List DL)),fillC sz cs [] []=(some cs))/\
  (∀(sz:Nat) (cs:List (List DL)) (i:Nat) (ps:List Nat) (v:DV) (vs:List DV),fillC sz cs (i::ps) (v::vs)=(match v.cells with |some ds=>(bif Nat.beq ds.length sz&&Nat.blt i cs.length then fillC sz (cs.set i ds) ps vs else none)|none=>none))/\
  (∀(sz:Nat) (lo hi:Bool) (h:HF) (vs:List DV),TU sz lo hi h vs=(match WL lo hi vs with |some (x,l,u)=>(match X2 sz h x l u with |some (d,rd)=>some ⟨.one d,[],[],rd⟩|none=>none)|none=>none))/\
  (∀(x:DL),WL false false [.one x]=(some (x,0,none)))/\
  (∀(x:DL) (k:IntKind) (a:Nat),(WL true false [.one x,.one (.p (.int k (.ofNat a)))]=(some (x,a,none)))/\(WL false true [.one x,.one (.p (.int k (.ofNat a)))]=(some (x,0,some a))))/\
  (∀(x:DL) (k k2:IntKind) (a c:Nat),WL true true [.one x,.one (.p (.int k (.ofNat a))),.one (.p (.int k2 (.ofNat c)))]=(some (x,a,some c)))/\
  (∀(sz:Nat) (h:HF) (es:List (List PL)) (l:Nat),X2 sz h (.p (.lst es)) l none=(bif Nat.ble l es.length&&Nat.ble es.length es.length&&TP sz es[l]? then some (.p (.lst ((es.take es.length).drop l)),[])else none))/\
  (∀(sz:Nat) (h:HF) (es:List (List PL)) (l u:Nat),X2 sz h (.p (.lst es)) l (some u)=(bif Nat.ble l u&&Nat.ble u es.length&&TP sz es[l]? then some (.p (.lst ((es.take u).drop l)),[])else none))/\
  (∀(sz:Nat) (h:HF) (l:Nat),X2 sz h (.p .nilS) l none=(bif Nat.beq l 0&&Nat.beq 0 0 then some (.p .nilS,[])else none))/\
  (∀(sz:Nat) (h:HF) (l u:Nat),X2 sz h (.p .nilS) l (some u)=(bif Nat.beq l 0&&Nat.beq u 0 then some (.p .nilS,[])else none))/\
  (∀(sz:Nat) (c:List PL),TP sz (some c)=(Nat.beq c.length sz))/\
  (∀(sz:Nat),TP sz none=(true))/\
  (∀(base e sz by_:Nat) (h:HF) (n:Nat) (y:DL),Wi base e sz by_ h n [.one (.p .nilS),.one y]=(match XP h y with |some (new,ids)=>(bif new.all (fun c=>Nat.beq c.length sz)then Wf e sz by_ n new ids else none)|none=>none))/\
  (∀(base e sz by_:Nat) (h:HF) (n id ver len:Nat) (y:DL),Wi base e sz by_ h n [.one (.own id ver 0 len),.one y]=(match XP h y with |some (new,ids)=>(bif new.all (fun c=>Nat.beq c.length sz)then(match h id with |some b=>(bif Nat.beq b.ch.length len then VS base e sz by_ id ver len b new ids else Td base e sz id ver len b new ids)|none=>none)else none)|none=>none))/\
  (∀(base e sz by_ id ver len:Nat) (b:Blk) (new:List (List DL)) (ids:List Nat),VS base e sz by_ id ver len b new ids=(bif Nat.beq b.ver ver&& !b.mp&& !b.fz&&Nat.beq b.ch.length len&&Nat.beq b.sz sz&&Nat.beq b.ty e&&Nat.ble base id&&Nat.ble ((len+new.length)*by_) lim&&Nat.ble (len+new.length) 9223372036854775807 then some ⟨.one (.own id (ver+1) 0 (len+new.length)),[],[(id,{b with ver:=ver+1,ch:=b.ch++new})],id::ids⟩else none))/\
  (∀(h:HF),XP h (.p .nilS)=(some ([],[])))/\
  (∀(h:HF) (es:List (List PL)),XP h (.p (.lst es))=(some (es.map (·.map .p),[])))/\
  (∀(α:Type) (x y:α),(cond true x y=(x))/\(cond false x y=(y)))/\
  (∀(α β:Type) (f:α->β),List.map f []=([]))/\
  (∀(α β:Type) (f:α->β) (x:α) (l:List α),List.map f (x::l)=(f x::List.map f l))/\
  (∀(α:Type),(([]:List α).length=(0))/\(([]:List α).isEmpty=(true)))/\
  (∀(α:Type) (x:α) (l:List α),((x::l).length=(l.length+1))/\((x::l)[0]? =(some x))/\((x::l).isEmpty=(false)))/\
  (∀(α:Type) (x:α) (l:List α) (n:Nat),((x::l)[n+1]? =(l[n]?))/\((x::l).take (n+1)=(x::l.take n))/\((x::l).drop (n+1)=(l.drop n)))/\
  (∀(α:Type) (x y:α) (l:List α),(x::l).set 0 y=(y::l))/\
  (∀(α:Type) (x y:α) (l:List α) (n:Nat),(x::l).set (n+1) y=(x::l.set n y))/\
  (∀(α:Type) (x:α) (l m:List α),x::l++m=(x::(l++m)))/\
  (∀(α:Type) (l:List α),([]++l=(l))/\(l++[]=(l))/\(l.take 0=([]))/\(l.drop 0=(l)))/\
  (∀(α:Type) (n:Nat),(([]:List α).take n=([]))/\(([]:List α).drop n=([])))/\
  (∀(α:Type) (p:α->Bool),List.all [] p=(true))/\
  (∀(α:Type) (p:α->Bool) (x:α) (l:List α),List.all (x::l) p=((p x&&List.all l p)))/\
  (∀(α β:Type) (f:α->List β),List.flatMap f []=([]))/\
  (∀(α β:Type) (f:α->List β) (x:α) (l:List α),List.flatMap f (x::l)=(f x++List.flatMap f l))/\
  (∀(α:Type) (x:α),(List.replicate 0 x=([]))/\(List.replicate 1 x=([x]))/\(List.replicate 2 x=([x,x]))/\(List.replicate 3 x=([x,x,x])))/\
  (∀(α β:Type) (f:α->Option β) (x:α) (l:List α),List.filterMap f (x::l)=((match f x with |none=>List.filterMap f l|some b=>b::List.filterMap f l)))/\
  (∀(α β:Type) (f:α->β) (x:α),Option.map f (some x)=(some (f x)))
theorem EVQ:EVq:=by
 refine⟨?_,?_,?_,?_,?_,?_,?_,?_,?_,?_,?_,?_,?_,?_,?_,?_,?_,?_,?_,?_,?_,?_,?_,?_,?_,?_,?_,?_,?_,?_,?_,?_,?_,?_,?_,?_,?_,?_,?_,?_,?_,?_,?_,?_,?_,?_,?_,?_,?_,?_,?_,?_,?_,?_,?_,?_,?_,?_,?_,?_,?_,?_,?_,?_,?_,?_,?_,?_,?_,?_,?_,?_,?_,?_,?_,?_,?_,?_,?_,?_,?_,?_,?_,?_,?_,?_,?_,?_,?_,?_,?_,?_,?_,?_,?_,?_,?_,?_,?_,?_,?_,?_,?_,?_,?_,?_,?_,?_,?_,?_,?_,?_,?_,?_,?_,?_,?_,?_,?_,?_,?_,?_,?_,?_,?_,?_,?_,?_,?_,?_,?_,?_,?_,?_,?_,?_,?_,?_,?_,?_,?_,?_,?_,?_,?_,?_,?_,?_,?_,?_,?_,?_,?_,?_,?_,?_,?_,?_,?_,?_,?_,?_,?_,?_,?_,?_,?_,?_,?_,?_,?_,?_,?_,?_,?_,?_,?_,?_,?_,?_,?_,?_,?_,?_⟩<;>intros<;>(repeat' apply And.intro)<;>first |rfl|exact Vp ..|exact mapO_two ..|exact frzL0 ..|exact idsL0 ..|exact app_nil ..|exact app_own ..|(simp only[Xp,TG];done)|(simp only[Wg,Uo,SC,valK_eq,wrK_eq,alK_eq];rfl)|(rename_i k _ _;cases k<;>rfl)|(rename_i b;cases b<;>rfl)|exact YJ _|exact beq_self_eq_true _|exact ZR _|simp
abbrev EVw (cE:Oracle->Nat->Nat->XCode->St->Option (Ex×St))(lK:Oracle->Nat->Nat->List Nat->XCode->Nat->St->Option (Ex×St))(oD:Oracle->Nat->Nat->List XOper->St->Option (St×List Foot))(oS:Oracle->Nat->List XOper->St->Option St)(oR:Oracle->Nat->Bool->XOper->St->Option (St×List Nat×List Nat))(dS:Oracle->Nat->List XOper->List XOper->St->Option St)(dD:Oracle->Nat->List XOper->St->Option St):Prop:=(∀(E:Oracle) (K b:Nat) (s:St),(cE E K b .skip s=(some (.normal,s)))/\(cE E K b .ret s=(some (.ret,s))))/\
  (∀(E:Oracle) (K b:Nat) (s:St) (ops:List XOper),(cE E K b (.region false ops) s=(match oS E b ops s with |some s=>some (.normal,s)|none=>none))/\(cE E K b (.region true ops) s=(match dD E b ops s with |some s=>some (.normal,s)|none=>none)))/\
  (∀(E:Oracle) (K b:Nat) (s:St) (p u:List XOper),cE E K b (.regionS p u) s=(match dS E b p u s with |some s=>some (.normal,s)|none=>none))/\
  (∀(E:Oracle) (K b:Nat) (s:St) (x y:XCode),cE E K b (.seq x y) s=(match cE E K b x s with |some (.normal,s)=>cE E K b y s|r=>r))/\
  (∀(E:Oracle) (K b:Nat) (s:St) (c:XOpd) (x y:XCode),cE E K b (.cond c x y) s=(match c.eval s.T with |some (.one (.p (.bool true)))=>cE E K b x s|some (.one (.p (.bool false)))=>cE E K b y s|_=>none))/\
  (∀(E:Oracle) (K b:Nat) (s:St) (i:Nat) (x:XCode),cE E K b (.block i x) s=(match cE E K b x s with |some (.exit j,s)=>bif j==i then some (.normal,s)else some (.exit j,s)|r=>r))/\
  (∀(E:Oracle) (K b:Nat) (s:St) (ks:List Nat) (x:XCode),(cE E K b (.loop (.keep ks x)) s=(lK E K b ks x K ⟨WI s.T ks,s.H⟩))/\(cE E K b (.keep ks x) s=(cE E K b x ⟨WI s.T ks,s.H⟩)))/\
  (∀(E:Oracle) (K b:Nat) (s:St) (x:XCode),cE E K b (.scope x) s=(cE E K b x s))/\
  (∀(E:Oracle) (K b:Nat) (s:St) (i:Nat),cE E K b (.exit i) s=(some (.exit i,s)))/\
  (∀(E:Oracle) (b:Nat) (s:St),oS E b [] s=(some s))/\
  (∀(E:Oracle) (b:Nat) (s:St) (o:XOper) (os:List XOper),oS E b (o::os) s=(match oR E b true o s with |some (s,_,_)=>oS E b os s|none=>none))/\
  (∀(E:Oracle) (b:Nat) (hp:Bool) (s:St) (dst:Option Nat) (op:XOp) (args:List XOpd) (g:Option (Nat×Bool)) (af:List Nat),oR E b hp ⟨dst,op,args,g,af⟩ s=(match Vv s.T g with |none=>none|some false=>some (⟨putT s.T dst (.tup []),s.H⟩,[],[])|some true=>(match Xm (XOpd.eval s.T) args with |none=>none|some vs=>bif hp&&Xq E op vs then SA E ⟨dst,op,args,g,af⟩ vs s else(match XC E b op vs (Xj s.H) s.H.length with |some r=>some (⟨putT s.T dst r.val,addAl (WE s.H r.wr) r.al⟩,r.rd,r.wr.map (·.1))|none=>none))))/\
  (∀(E:Oracle) (b:Nat) (ops:List XOper) (s:St),dD E b ops s=(match oD E b 0 ops s with |some (s,fs)=>(if Sd fs=true then some s else(if To fs=true then some s else none))|none=>none))/\
  (∀(E:Oracle) (b:Nat) (p u:List XOper) (s:St),dS E b p u s=(match dD E b p s with |some s=>oS E b u s|none=>none))/\
  (∀(E:Oracle) (b i:Nat) (s:St),oD E b i [] s=(some (s,[])))/\
  (∀(E:Oracle) (b i:Nat) (o:XOper) (os:List XOper) (s:St),oD E b i (o::os) s=(bif Xf E o.op&& !(os.isEmpty&&Te o.after i)then none else(match oR E b (Xf E o.op) o s with |some (s1,rd,wr)=>(match oD E b (i+1) os s1 with |some (s2,fs)=>some (s2,⟨i,rd,wr,o.after,s.H.length,s1.H.length⟩::fs)|none=>none)|none=>none)))/\
  (∀(E:Oracle) (K nt:Nat) (rs:List (Nat×Option (Bool×Nat))) (c:XCode) (args:List PV),VR E K ⟨nt,rs,c⟩ args=(bif Nat.ble (args.map inj).length nt then(match cE E K 0 c ⟨Vk (args.map inj) 0,[]⟩with |some (.normal,s)=>finP rs s|some (.ret,s)=>finP rs s|_=>none)else none))
theorem EVW:EVw Xp Xc Vr W9 Wg S6 Vs:=by
 refine⟨?_,?_,?_,?_,?_,?_,?_,?_,?_,?_,?_,?_,?_,?_,?_,?_,?_⟩<;>intros<;>(repeat' apply And.intro)<;>first |rfl|exact evDraw_if ..|exact loop_loopK ..|exact pureF_eq ..|(simp only[Xp,TG];done)|(simp only[Wg,Uo,SC,valK_eq,wrK_eq,alK_eq];rfl)|(rename_i k _ _;cases k<;>rfl)|(rename_i b;cases b<;>rfl)|exact YJ _|exact beq_self_eq_true _|exact ZR _|simp
theorem EVS:EVw Xp Xc Vr W9 Wg S6 Vs/\EVq:=⟨EVW,EVQ⟩
theorem EVF:(∀fs,To fs=fs.all fun f=>(f.wr.isEmpty&&Nat.beq f.lo f.hi)||fs.all fun g=>footOk f g)/\
  (∀f g,footOk f g=(Nat.beq f.i g.i||(f.wr.all (fun id=> !(g.wr.contains id)&&(!(g.rd.contains id)||f.after.contains g.i))&&g.rd.all (fun id=> !(Nat.ble f.lo id&&Nat.ble (id+1) f.hi)||g.after.contains f.i)&&g.wr.all (fun id=> !(Nat.ble f.lo id&&Nat.ble (id+1) f.hi)||g.after.contains f.i))))/\
  (∀(x y:Nat) (l:List Nat),(y::l).contains x=(decide (x=y)||l.contains x))/\(∀x:Nat,([]:List Nat).contains x=false)/\
  (∀(G:List Blk) (y:Blk),(G++[y])[G.length]? =some y)/\(∀(G:List Blk) (x y:Blk),(G++[x,y])[G.length+1]? =some y)/\(∀(G:List Blk) (x y:Blk),(G++[x,y])[G.length]? =some x)/\
  (∀(G:List Blk) (x y:Blk),(G++[x])++[y]=G++[x,y])/\(∀(G:List Blk) (x:Blk),(G++[x]).length=G.length+1)/\(∀(G:List Blk) (x y:Blk),(G++[x,y]).length=G.length+2)/\
  (∀(G:List Blk) (x y:Blk),(G++[x]).set G.length y=G++[y])/\(∀(G:List Blk) (x y z:Blk),(G++[x,y]).set (G.length+1) z=G++[x,z])/\(∀(G:List Blk) (x y z:Blk),(G++[x,y]).set G.length z=G++[z,y])/\
  (∀n:Nat,(n=n+1)=False)/\(∀n:Nat,(n+1=n)=False)/\(∀n:Nat,(n+1<=n)=False)/\(∀n:Nat,(n<=n+1)=True)/\(∀n:Nat,(n=n+2)=False)/\(∀n:Nat,(n+2=n)=False)/\(∀n:Nat,(n+2<=n)=False)/\(∀n:Nat,(n<=n+2)=True)/\(∀n:Nat,(n=n+3)=False)/\(∀n:Nat,(n+3=n)=False)/\(∀n:Nat,(n+3<=n)=False)/\(∀n:Nat,(n<=n+3)=True)/\(∀n:Nat,(n=n+4)=False)/\(∀n:Nat,(n+4=n)=False)/\(∀n:Nat,(n+4<=n)=False)/\(∀n:Nat,(n<=n+4)=True)/\(∀n:Nat,(n<=n)=True):=by
 refine⟨fun _=>rfl,fun _ _=>rfl,fun x y l=> ?_,fun _=>rfl,?_,?_,?_,?_,?_,?_,?_,?_,?_,?_,?_,?_,?_,?_,?_,?_,?_,?_,?_,?_,?_,?_,?_,?_,?_,?_⟩
 ·simp only[List.contains_cons];congr 1
 all_goals intros;first |(simp;done)|(simp only[eq_iff_iff,iff_false,iff_true];omega)
theorem wrap_i64 {a:Nat}(h:a<9223372036854775808):Xd .i64 (.ofNat a)=.ofNat a:=wrap_nat h
theorem wrap_u64 (a:Nat):Xd .u64 (.ofNat a)=.ofNat (a%18446744073709551616):=rfl
theorem wrap_u32 (a:Nat):Xd .u32 (.ofNat a)=.ofNat (a%4294967296):=rfl
theorem Ui {a b:Nat}(h:b<=a):(Int.ofNat a-Int.ofNat b)=Int.ofNat (a-b):=by simp only[Zv];omega
theorem XH {a b:Nat}(h:b<=a)(h2:a<9223372036854775808):Xd .i64 (.ofNat a-.ofNat b)=.ofNat (a-b):=by
 rw[Ui h];exact wrap_nat (by omega)
theorem sub_neg {a b:Nat}(h:a<b):(Int.ofNat a-Int.ofNat b)=Int.negSucc (b-a-1):=by
 simp only[Zv,Int.negSucc_eq];omega
theorem sub_u64 {a b:Nat}(h:b<=18446744073709551616):Xd .u64 (.ofNat a-.ofNat b)=.ofNat ((a+(18446744073709551616-b))%18446744073709551616):=by
 by_cases hb:b<=a
 ·rw[Ui hb,wrap_u64];congr 1;omega
 ·rw[sub_neg (by omega)]
  show Vt .u64 (X4 .u64 (.negSucc (b-a-1)))=_
  have :X4 .u64 (.negSucc (b-a-1))=(a+(18446744073709551616-b))%18446744073709551616:=by
   simp only[X4,Tg];omega
  rw[this];rfl
theorem blt_dec (a b:Nat):Nat.blt a b=decide (a<b):=by
 by_cases h:a<b
 ·rw[blt_t h];simp[h]
 ·rw[blt_f (by omega)];simp[h]
theorem ble_dec (a b:Nat):Nat.ble a b=decide (a<=b):=by
 by_cases h:a<=b
 ·rw[T7 h];simp[h]
 ·rw[ble_f (by omega)];simp[h]
theorem beq_dec (a b:Nat):Nat.beq a b=decide (a=b):=by
 by_cases h:a=b
 ·rw[beq_t h];simp[h]
 ·rw[beq_f h];simp[h]
theorem ltF_nn (a b:Nat):ltF (.ofNat a) (.ofNat b)=decide (a<b):=blt_dec a b
theorem eqF_nn (a b:Nat):eqF (.ofNat a) (.ofNat b)=decide (a=b):=beq_dec a b
theorem leF_nn (a b:Nat):leF (.ofNat a) (.ofNat b)=decide (a<=b):=by
 unfold leF;rw[ltF_nn]
 by_cases h:a<=b
 ·simp[h,Nat.not_lt.2 h]
 ·simp[h,Nat.lt_of_not_le h]
def pI:Nat->Int
 |0=>.negSucc 0
 |n+1=>.ofNat n
theorem Ve {n:Nat}(h:n<9223372036854775808):Xd .i64 (.ofNat n-.ofNat 1)=pI n:=by
 cases n with
 |zero=>rfl
 |succ n=>exact XH (by omega) h
theorem EVN:(∀a b,ltF (.ofNat a) (.ofNat b)=decide (a<b))/\(∀a b,ltF (.ofNat a) (.negSucc b)=false)/\(∀a b,ltF (.negSucc a) (.ofNat b)=true)/\
  (∀a b,leF (.ofNat a) (.ofNat b)=decide (a<=b))/\(∀a b,leF (.ofNat a) (.negSucc b)=false)/\(∀a b,leF (.negSucc a) (.ofNat b)=true)/\
  (∀a b,eqF (.ofNat a) (.ofNat b)=decide (a=b))/\(∀a b,eqF (.ofNat a) (.negSucc b)=false)/\(∀a b,eqF (.negSucc a) (.ofNat b)=false)/\(∀a b,eqF (.negSucc a) (.negSucc b)=decide (a=b))/\
  (∀a b,Nat.blt a b=decide (a<b))/\(∀a b,Nat.ble a b=decide (a<=b))/\(∀a b,Nat.beq a b=decide (a=b))/\
  (∀a b:Nat,(Int.ofNat a+Int.ofNat b)=Int.ofNat (a+b))/\(∀a b:Nat,(Int.ofNat a*Int.ofNat b)=Int.ofNat (a*b))/\
  (∀a,Xd .u64 (.ofNat a)=.ofNat (a%18446744073709551616))/\(∀a,Xd .u32 (.ofNat a)=.ofNat (a%4294967296))/\
  (∀a,Sh .u64 (.ofNat a) (.ofNat 32)=some (.p (.int .u64 (.ofNat (a / 4294967296)))))/\(∀a,Sh .u64 (.ofNat a) (.ofNat 63)=some (.p (.int .u64 (.ofNat (a / 9223372036854775808)))))/\
  (∀k a b,V8 k (.ofNat a) (.ofNat (b+1))=some (.p (.int k (Xd k (.ofNat (a / (b+1)))))))/\(∀k a b,VX k (.ofNat a) (.ofNat (b+1))=some (.p (.int k (.ofNat (a%(b+1))))))/\
  (decide True=true)/\(decide False=false)/\((!decide True)=false)/\((!decide False)=true)/\((false=true)=False):=by
 refine⟨ltF_nn,fun _ _=>rfl,fun _ _=>rfl,leF_nn,fun _ _=>rfl,fun _ _=>rfl,eqF_nn,fun _ _=>rfl,fun _ _=>rfl,fun a b=>beq_dec a b,blt_dec,ble_dec,beq_dec,fun _ _=>rfl,fun _ _=>rfl,fun _=>rfl,fun _=>rfl,fun _=>rfl,fun _=>rfl,fun _ _ _=>rfl,fun _ _ _=>rfl,rfl,rfl,rfl,rfl,by simp⟩
structure Base where
 E0:Oracle
 X:Nat->Option XFunc
 le:∀K,OLe E0 (lift X K E0)
def Base.E (B:Base)(K n:Nat):Oracle:=ev B.E0 B.X K n
def Evt (B:Base)(p:Oracle->Nat->Prop):Prop:=∃N,∀K n,N<=K->N<=n->p (B.E K n) K
section
variable {B:Base}{p q:Oracle->Nat->Prop}
theorem Evt.and (h:Evt B p)(k:Evt B q):Evt B fun E K=>p E K/\q E K:=by
 obtain⟨N,hN⟩:=h
 obtain⟨M,hM⟩:=k
 exact⟨max N M,fun K n h1 h2=>⟨hN K n (by omega) (by omega),hM K n (by omega) (by omega)⟩⟩
theorem Evt.mono (h:Evt B p)(k:∀E K,p E K->q E K):Evt B q:=by
 obtain⟨N,hN⟩:=h
 exact⟨N,fun K n h1 h2=>k _ _ (hN K n h1 h2)⟩
theorem Evt.of (k:∀K n,p (B.E K n) K):Evt B p:=⟨0,fun K n _ _=>k K n⟩
theorem Evt.ge (m:Nat):Evt B fun _ K=>m<=K:=⟨m,fun _ _ h _=>h⟩
theorem Evt.all {p:Nat->Oracle->Nat->Prop}:∀(n:Nat),(∀i,i<n->Evt B (p i))->Evt B fun E K=>∀i,i<n->p i E K
 |0,_=>Evt.of fun _ _ i h=>by omega
 |n+1,h=>by
  refine((Evt.all n fun i hi=>h i (by omega)).and (h n (by omega))).mono fun E K ⟨h1,h2⟩ i hi=> ?_
  by_cases e:i=n
  ·subst e;exact h2
  ·exact h1 i (by omega)
def Ret (B:Base)(f:Nat)(a:List PV)(r:PV):Prop:=∃K n,(B.E K n).pure f a=some r
def Tj (B:Base)(f:Nat)(a:List DV)(H:List Blk)(d:DV)(H':List Blk):Prop:=∃K n,(B.E K n).heap f a H=some (d,H')
variable {f:Nat}{a:List PV}{r:PV}{H H':List Blk}{d:DV}{ad:List DV}{xf:XFunc}
theorem Base.E_le {K K' n m:Nat}(h:K<=K')(k:n<=m):OLe (B.E K n) (B.E K' m):=ev_le B.E0 B.X B.le h k
theorem Ret.evt (h:Ret B f a r):Evt B fun E _=>E.pure f a=some r:=by
 obtain⟨K,n,h⟩:=h
 exact⟨max K n,fun K' m h1 h2=>(B.E_le (by omega) (by omega)).pure f a r h⟩
theorem Tj.evt (h:Tj B f ad H d H'):Evt B fun E _=>E.heap f ad H=some (d,H'):=by
 obtain⟨K,n,h⟩:=h
 exact⟨max K n,fun K' m h1 h2=>(B.E_le (by omega) (by omega)).heap f ad H _ h⟩
theorem Ret.of (hx:B.X f=some xf)(h:Evt B fun E K=>VR E K xf a=some r):Ret B f a r:=by
 obtain⟨N,hN⟩:=h
 refine⟨N,N+1,?_⟩
 show(match B.X f with
  |some xf=>VR (B.E N N) N xf a
  |none=>(B.E N N).pure f a)=some r
 rw[hx];exact hN N N (Zg _) (Zg _)
theorem Tj.of (hx:B.X f=some xf)(h:Evt B fun E K=>UT E K xf ad H=some (d,H')):Tj B f ad H d H':=by
 obtain⟨N,hN⟩:=h
 refine⟨N,N+1,?_⟩
 show(match B.X f with
  |some xf=>UT (B.E N N) N xf ad H
  |none=>(B.E N N).heap f ad H)=some (d,H')
 rw[hx];exact hN N N (Zg _) (Zg _)
theorem Tj.base (h:B.E0.heap f ad H=some (d,H')):Tj B f ad H d H':=⟨0,0,h⟩
theorem Base.mode (K n:Nat):(B.E K n).mode=B.E0.mode:=by
 induction n with
 |zero=>rfl
 |succ n ih=>exact ih
theorem Evt.mode:Evt B fun E _=>E.mode=B.E0.mode:=Evt.of fun K n=>Base.mode K n
end
end Go.Ev
namespace Go.Ev
def finD (rs:List (Nat×Option (Bool×Nat)))(s:St):Option (DV×List Blk):=
 match Xm (XY s) rs with
 |some ds=>bif ds.all DV.plain then some (packD ds,s.H)else none
 |none=>none
theorem heapF_eq (E:Oracle)(K nt:Nat)(rs:List (Nat×Option (Bool×Nat)))(c:XCode)(args:List DV)(H:List Blk):UT E K ⟨nt,rs,c⟩ args H=(bif Nat.ble args.length nt then(match Xp E K 0 c ⟨Vk args 0,H⟩with |some (.normal,s)=>finD rs s|some (.ret,s)=>finD rs s|_=>none)else none):=by
 unfold UT UH
 rw[argsK_eq]
 cases Nat.ble args.length nt with
 |false=>rfl
 |true=>
  simp only[cond_true]
  rcases Xp E K 0 c ⟨Vk args 0,H⟩with _|⟨_|_|_,s⟩
  ·rfl
  ·simp only[finD];cases Xm (XY s) rs<;>rfl
  ·rfl
  ·simp only[finD];cases Xm (XY s) rs<;>rfl
theorem EVH:(∀(E:Oracle) (K nt:Nat) (rs:List (Nat×Option (Bool×Nat))) (c:XCode) (args:List DV) (H:List Blk),UT E K ⟨nt,rs,c⟩ args H=(bif Nat.ble args.length nt then(match Xp E K 0 c ⟨Vk args 0,H⟩with |some (.normal,s)=>finD rs s|some (.ret,s)=>finD rs s|_=>none)else none))/\
  (∀(s:St),finD [] s=some (.tup [],s.H))/\
  (∀(s:St) (x:Nat×Option (Bool×Nat)),finD [x] s=(match XY s x with |some d=>bif DV.plain d then some (d,s.H)else none|none=>none))/\
  (∀(s:St) (x y:Nat×Option (Bool×Nat)),finD [x,y] s=(match XY s x with |some d=>(match XY s y with |some e=>bif DV.plain d&&DV.plain e then some (.tup [d,e],s.H)else none|none=>none)|none=>none))/\
  (∀l,DV.plain (.one l)=true)/\(∀l,DV.plain (.agg l)=true)/\
  (∀(E:Oracle) (dst:Option Nat) (f:Nat) (args:List XOpd) (g:Option (Nat×Bool)) (af:List Nat) (vs:List DV) (s:St),SA E ⟨dst,.call f,args,g,af⟩ vs s=Wl E dst f vs s)/\
  (∀(E:Oracle) (dst:Option Nat) (f:Nat) (vs:List DV) (s:St),Wl E dst f vs s=(match E.mode f with
   | .heap=>(match E.heap f vs s.H with
     |some (v,H)=>some (⟨putT s.T dst v,H⟩,[],[])
     |none=>none)
   | .pure=>none)):=by
 refine⟨heapF_eq,fun s=>rfl,fun s x=> ?_,fun s x y=> ?_,fun _=>rfl,fun _=>rfl,fun _ _ _ _ _ _ _ _=>rfl,fun E dst f vs s=> ?_⟩
 ·simp only[finD,Xm]
  cases XY s x<;>simp[packD]
 ·simp only[finD,Xm]
  cases XY s x<;>cases XY s y<;>simp[packD]
 ·unfold Wl
  cases E.mode f with
  |pure=>rfl
  |heap=>cases E.heap f vs s.H with
   |none=>rfl
   |some p=>simp only[Uo]
theorem EVG:(∀(G L:List Blk),(G++L)[G.length]? =L[0]?)/\(∀(G L:List Blk) (k:Nat),(G++L)[G.length+k]? =L[k]?)/\(∀(G L:List Blk) (k:Nat),(G++L)[G.length+1+k]? =L[1+k]?)/\
  (∀(G L:List Blk) (x:Blk),(G++L).set G.length x=G++L.set 0 x)/\(∀(G L:List Blk) (k:Nat) (x:Blk),(G++L).set (G.length+k) x=G++L.set k x)/\
  (∀(x:Blk) (L:List Blk),(x::L)[0]? =some x)/\(∀(x:Blk) (L:List Blk) (k:Nat),(x::L)[k+1]? =L[k]?)/\(∀(x y:Blk) (L:List Blk),(x::L).set 0 y=y::L)/\(∀(x y:Blk) (L:List Blk) (k:Nat),(x::L).set (k+1) y=x::L.set k y)/\
  (∀(x y:Blk) (L:List Blk),(x::y::L)[1]? =some y)/\(∀(x y z:Blk) (L:List Blk),(x::y::z::L)[2]? =some z)/\(∀(x y z u:Blk) (L:List Blk),(x::y::z::u::L)[3]? =some u)/\
  (∀(x y w:Blk) (L:List Blk),(x::y::L).set 1 w=x::w::L)/\(∀(x y z w:Blk) (L:List Blk),(x::y::z::L).set 2 w=x::y::w::L)/\(∀(x y z u w:Blk) (L:List Blk),(x::y::z::u::L).set 3 w=x::y::z::w::L):=by
 refine⟨fun G L=> ?_,fun G L k=> ?_,fun G L k=> ?_,fun G L x=> ?_,fun G L k x=> ?_,fun _ _=>rfl,fun _ _ _=>rfl,fun _ _ _=>rfl,fun _ _ _ _=>rfl,fun _ _ _=>rfl,fun _ _ _ _=>rfl,fun _ _ _ _ _=>rfl,fun _ _ _ _=>rfl,fun _ _ _ _ _=>rfl,fun _ _ _ _ _ _=>rfl⟩
 ·rw[ZG (Zg _),YH]
 ·rw[ZG (Nat.le_add_right ..),YF]
 ·rw[ZG (by omega)]
  congr 1;omega
 ·rw[List.set_append_right _ _ (Zg _),YH]
 ·rw[List.set_append_right _ _ (Nat.le_add_right ..),YF]
theorem EVR:∃cE:Oracle->Nat->Nat->XCode->St->Option (Ex×St),∃lK:Oracle->Nat->Nat->List Nat->XCode->Nat->St->Option (Ex×St),∃oD:Oracle->Nat->Nat->List XOper->St->Option (St×List Foot),∃oS:Oracle->Nat->List XOper->St->Option St,∃oR:Oracle->Nat->Bool->XOper->St->Option (St×List Nat×List Nat),∃dS:Oracle->Nat->List XOper->List XOper->St->Option St,∃dD:Oracle->Nat->List XOper->St->Option St,
  cE=Xp/\lK=Xc/\oD=Vr/\oS=W9/\oR=Wg/\dS=S6/\dD=Vs/\(∀(E:Oracle) (K b k:Nat) (ks:List Nat) (c:XCode) (s:St),lK E K b ks c (k+1) s=(match cE E K b c s with |some (.normal,s)=>lK E K b ks c k ⟨WI s.T ks,s.H⟩|r=>r))/\EVw cE lK oD oS oR dS dD/\∀(E:Oracle) (K nt:Nat) (rs:List (Nat×Option (Bool×Nat))) (c:XCode) (args:List DV) (H:List Blk),UT E K ⟨nt,rs,c⟩ args H=(bif Nat.ble args.length nt then(match cE E K 0 c ⟨Vk args 0,H⟩with |some (.normal,s)=>finD rs s|some (.ret,s)=>finD rs s|_=>none)else none):=by
 refine⟨Xp,Xc,Vr,W9,Wg,S6,Vs,rfl,rfl,rfl,rfl,rfl,rfl,rfl,?_,EVW,?_⟩<;>intros<;>first |rfl|exact heapF_eq ..
end Go.Ev
