/- The equations by which simp runs the interpreter over symbolic values (written by gen_evrun.py). -/
import Derived.Test.YtefpgecinlekpaaGreatEvTop
set_option maxRecDepth 100000
namespace Go.Ev
def Xa (E:Oracle)(K b:Nat)(ks:List Nat)(c:XCode):Nat->St->Option (Ex×St)
 |0,_=>none
 |k+1,s=>match Xp E K b c s with
  |some (.normal,s)=>Xa E K b ks c k ⟨WR s.T ks,s.H⟩
  |r=>r
theorem loopN_K (E:Oracle)(K b:Nat)(ks:List Nat)(c:XCode):∀(k:Nat) (s:St),loopN (fun s=>Xp E K b (.keep ks c) s) k s=Xa E K b ks c k ⟨WR s.T ks,s.H⟩
 |0,_=>rfl
 |k+1,s=>by
  have e:Xp E K b (.keep ks c) s=Xp E K b c ⟨WR s.T ks,s.H⟩:=by simp only[Xp,TG]
  have ih:=loopN_K E K b ks c k
  simp only[loopN,Xa]
  rw[e]
  rcases Xp E K b c ⟨WR s.T ks,s.H⟩with _|⟨_|_|_,s1⟩
  ·rfl
  ·exact ih s1
  ·rfl
  ·rfl
theorem loop_loopK (E:Oracle)(K b:Nat)(s:St)(ks:List Nat)(c:XCode):Xp E K b (.loop (.keep ks c)) s=Xa E K b ks c K ⟨WR s.T ks,s.H⟩:=by
 simp only[Xp];exact loopN_K E K b ks c K s
def finP (rs:List (Nat×Option (Bool×Nat)))(s:St):Option PV:=
 match Xl (X3 s) rs with
 |some ds=>(match Xl (Xw (Xi s.H)) ds with
  |some ps=>some (packP ps)
  |none=>none)
 |none=>none
theorem pureF_eq (E:Oracle)(K nt:Nat)(rs:List (Nat×Option (Bool×Nat)))(c:XCode)(args:List PV):Ux E K ⟨nt,rs,c⟩ args=(bif Nat.ble (args.map inj).length nt then(match Xp E K 0 c ⟨Vr (args.map inj) 0,[]⟩with |some (.normal,s)=>finP rs s|some (.ret,s)=>finP rs s|_=>none)else none):=by
 unfold Ux UN
 rw[argsK_eq]
 cases Nat.ble (args.map inj).length nt with
 |false=>rfl
 |true=>
  simp only[cond_true]
  rcases Xp E K 0 c ⟨Vr (args.map inj) 0,[]⟩with _|⟨_|_|_,s⟩
  ·rfl
  ·simp only[finP];cases Xl (X3 s) rs<;>rfl
  ·rfl
  ·simp only[finP];cases Xl (X3 s) rs<;>rfl
def Sc:List Foot->Bool
 |[]=>true
 |f::fs=>f.wr.isEmpty&&Nat.beq f.lo f.hi&&Sc fs
theorem plainB_feet:∀{fs:List Foot},Sc fs=true->PlainFeet fs
 |[],_=>trivial
 |f::fs,h=>by
  simp only[Sc,Zo,List.isEmpty_iff]at h
  exact⟨⟨h.1.1,Zj h.1.2⟩,plainB_feet h.2⟩
theorem evDraw_if (E:Oracle)(b:Nat)(ops:List XOper)(s:St):Vz E b ops s=(match Vy E b 0 ops s with |some (s,fs)=>(if Sc fs=true then some s else(if Tr fs=true then some s else none))|none=>none):=by
 unfold Vz
 rcases Vy E b 0 ops s with _|⟨s1,fs⟩
 ·rfl
 ·show(bif Tr fs then some s1 else none)=(if Sc fs=true then some s1 else(if Tr fs=true then some s1 else none))
  by_cases hp:Sc fs=true
  ·rw[if_pos hp,feet_ok (plainB_feet hp),cond_true]
  ·rw[if_neg hp];cases Tr fs<;>rfl
theorem frzL0 (n:Nat)(h:HF)(l:PL):Xn n h (.p l)=some l:=by cases n<;>rfl
theorem idsL0 (n:Nat)(h:HF)(l:PL):Wt n h (.p l)=[]:=by cases n<;>rfl
theorem app_nil (base e sz by_:Nat)(h:HF)(n:Nat)(y:DL):Wk base e sz by_ h n [.one (.p .nilS),.one y]=(match XX h y with |some (new,ids)=>(bif new.all (fun c=>Nat.beq c.length sz)then X8 e sz by_ n new ids else none)|none=>none):=by
 simp only[Wk];rfl
theorem app_own (base e sz by_:Nat)(h:HF)(n id ver len:Nat)(y:DL):Wk base e sz by_ h n [.one (.own id ver 0 len),.one y]=(match XX h y with |some (new,ids)=>(bif new.all (fun c=>Nat.beq c.length sz)then(match h id with |some b=>(bif Nat.beq b.ch.length len then VX base e sz by_ id ver len b new ids else Tg base e sz id ver len b new ids)|none=>none)else none)|none=>none):=by
 simp only[Wk];rfl
theorem mapO_two (α β:Type)(f:α->Option β)(x:α)(xs:List α):Xl f (x::xs)=(match f x with |none=>none|some y=>(match Xl f xs with |none=>none|some ys=>some (y::ys))):=by
 cases h:f x with
 |none=>simp only[Xl,h]
 |some y=>cases h2:Xl f xs<;>simp only[Xl,h,h2]
abbrev EVq:Prop:=(∀(T:List (Nat×DV)),(VC T none=(some true))/\(WR T []=([])))/\
  (∀(T:List (Nat×DV)) (t:Nat) (w:Bool),VC T (some (t,w))=(match Xf T t with |some (.one (.p (.bool b)))=>some (b==w)|some (.tup [])=>some false|_=>none))/\
  (∀(α β:Type) (f:α->Option β),(Xl f []=(some []))/\(List.filterMap f []=([])))/\
  (∀(α β:Type) (f:α->Option β) (x:α) (xs:List α),Xl f (x::xs)=(match f x with |none=>none|some y=>(match Xl f xs with |none=>none|some ys=>some (y::ys))))/\
  (∀(T:List (Nat×DV)) (n:Nat),XOpd.eval T (.t n)=(Xf T n))/\
  (∀(T:List (Nat×DV)) (v:PV),XOpd.eval T (.c v)=(some (inj v)))/\
  (∀(l:PL),(inj (.one l)=(.one (.p l)))/\(inj1 (.one l)=(.one (.p l)))/\((PV.one l).scalar=(l.scalar))/\((PV.one l).scalar1=(l.scalar)))/\
  (∀(cs:List PL),(inj (.agg cs)=(.agg (cs.map .p)))/\(inj1 (.agg cs)=(.agg (cs.map .p)))/\((PV.agg cs).scalar=(cs.all PL.scalar))/\((PV.agg cs).scalar1=(cs.all PL.scalar))/\(PL.scalar (.ref cs)=(false)))/\
  (∀(vs:List PV),(inj (.tup vs)=(.tup (vs.map inj1)))/\((PV.tup vs).scalar=(vs.all PV.scalar1)))/\
  (∀(t:Nat) (v:DV) (T:List (Nat×DV)) (n:Nat),Xf ((t,v)::T) n=(if t=n then some v else Xf T n))/\
  (∀(T:List (Nat×DV)) (k:Nat) (ks:List Nat),WR T (k::ks)=(match Xf T k with |some v=>(k,v)::WR T ks|none=>WR T ks))/\
  (∀(T:List (Nat×DV)) (d:Nat) (v:DV),putT T (some d) v=((d,v)::T))/\
  (∀(T:List (Nat×DV)) (v:DV),putT T none v=(T))/\
  (∀(H:List Blk),(WM H []=(H))/\(addAl H []=(H)))/\
  (∀(H:List Blk) (i:Nat) (x:Blk) (ws:List (Nat×Blk)),WM H ((i,x)::ws)=(WM (H.set i x) ws))/\
  (∀(H:List Blk) (x:Blk) (xs:List Blk),addAl H (x::xs)=(H++x::xs))/\
  (∀(H:List Blk) (i:Nat),Xi H i=(H[i]?))/\
  (∀(E:Oracle) (b:Nat) (vs:List DV) (h:HF) (n:Nat),(XG E b (.move) vs h n=(opMove vs))/\(XG E b (.nilCheck) vs h n=(UH vs))/\(XG E b (.pick) vs h n=(opPick vs))/\(XG E b (.len) vs h n=(TQ vs))/\(XG E b (.max) vs h n=(Uc ltF vs))/\(XG E b (.min) vs h n=(Uc (fun a b=>ltF b a) vs))/\(XG E b (.lenMap) vs h n=(U6 h vs))/\(XG E b (.slice3) vs h n=(Su vs))/\(XG E b (.callV) vs h n=(V6 E h vs)))/\
  (∀(E:Oracle) (vs:List DV),(Xr E (.move) vs=(false))/\(Xr E (.nilCheck) vs=(false))/\(Xr E (.pick) vs=(false))/\(Xr E (.len) vs=(false))/\(Xr E (.max) vs=(false))/\(Xr E (.min) vs=(false))/\(Xr E (.lenMap) vs=(false))/\(Xr E (.slice3) vs=(false)))/\
  (∀(E:Oracle),(Xe E (.move)=(false))/\(Xe E (.nilCheck)=(false))/\(Xe E (.pick)=(false))/\(Xe E (.len)=(false))/\(Xe E (.max)=(false))/\(Xe E (.min)=(false))/\(Xe E (.lenMap)=(false))/\(Xe E (.slice3)=(false)))/\
  (∀(E:Oracle) (b:Nat) (t:Nat) (vs:List DV) (h:HF) (n:Nat),XG E b (.box t) vs h n=(opBox t n vs))/\
  (∀(E:Oracle) (t:Nat) (vs:List DV),Xr E (.box t) vs=(false))/\
  (∀(E:Oracle) (t:Nat),Xe E (.box t)=(false))/\
  (∀(E:Oracle) (b:Nat) (t:Nat) (z:List PL) (vs:List DV) (h:HF) (n:Nat),XG E b (.alloc t z) vs h n=(TS t z n vs))/\
  (∀(E:Oracle) (t:Nat) (z:List PL) (vs:List DV),Xr E (.alloc t z) vs=(false))/\
  (∀(E:Oracle) (t:Nat) (z:List PL),Xe E (.alloc t z)=(false))/\
  (∀(E:Oracle) (b:Nat) (z:List PL) (pl:List (Nat×Nat)) (vs:List DV) (h:HF) (n:Nat),XG E b (.build z pl) vs h n=(S6 z pl vs))/\
  (∀(E:Oracle) (z:List PL) (pl:List (Nat×Nat)) (vs:List DV),Xr E (.build z pl) vs=(false))/\
  (∀(E:Oracle) (z:List PL) (pl:List (Nat×Nat)),Xe E (.build z pl)=(false))/\
  (∀(E:Oracle) (b:Nat) (e:Nat) (z:List PL) (m:Nat) (pl:List Nat) (vs:List DV) (h:HF) (n:Nat),XG E b (.buildSlice e z m pl) vs h n=(WW e z m pl n vs))/\
  (∀(E:Oracle) (e:Nat) (z:List PL) (m:Nat) (pl:List Nat) (vs:List DV),Xr E (.buildSlice e z m pl) vs=(false))/\
  (∀(E:Oracle) (e:Nat) (z:List PL) (m:Nat) (pl:List Nat),Xe E (.buildSlice e z m pl)=(false))/\
  (∀(E:Oracle) (b:Nat) (a:Bool) (m:Nat) (vs:List DV) (h:HF) (n:Nat),XG E b (.load a m) vs h n=(S3 a m h vs))/\
  (∀(E:Oracle) (a:Bool) (m:Nat) (vs:List DV),Xr E (.load a m) vs=(false))/\
  (∀(E:Oracle) (a:Bool) (m:Nat),Xe E (.load a m)=(false))/\
  (∀(E:Oracle) (b:Nat) (m:Nat) (vs:List DV) (h:HF) (n:Nat),(XG E b (.store m) vs h n=(TO b m h vs))/\(XG E b (.fieldAddr m) vs h n=(Vg m vs))/\(XG E b (.indexS m) vs h n=(WH m h vs))/\(XG E b (.extract m) vs h n=(UJ m vs))/\(XG E b (.lenA m) vs h n=(opLenA m vs))/\(XG E b (.copy m) vs h n=(S5 b m h vs)))/\
  (∀(E:Oracle) (m:Nat) (vs:List DV),(Xr E (.store m) vs=(false))/\(Xr E (.fieldAddr m) vs=(false))/\(Xr E (.indexS m) vs=(false))/\(Xr E (.extract m) vs=(false))/\(Xr E (.lenA m) vs=(false))/\(Xr E (.copy m) vs=(false)))/\
  (∀(E:Oracle) (m:Nat),(Xe E (.store m)=(false))/\(Xe E (.fieldAddr m)=(false))/\(Xe E (.indexS m)=(false))/\(Xe E (.extract m)=(false))/\(Xe E (.lenA m)=(false))/\(Xe E (.copy m)=(false)))/\
  (∀(E:Oracle) (b:Nat) (o:BinOp) (vs:List DV) (h:HF) (n:Nat),XG E b (.bin o) vs h n=(opBin o vs))/\
  (∀(E:Oracle) (o:BinOp) (vs:List DV),Xr E (.bin o) vs=(false))/\
  (∀(E:Oracle) (o:BinOp),Xe E (.bin o)=(false))/\
  (∀(E:Oracle) (b:Nat) (q:Bool) (vs:List DV) (h:HF) (n:Nat),(XG E b (.binB q) vs h n=(opBinB q vs))/\(XG E b (.binNil q) vs h n=(WX q vs)))/\
  (∀(E:Oracle) (q:Bool) (vs:List DV),(Xr E (.binB q) vs=(false))/\(Xr E (.binNil q) vs=(false)))/\
  (∀(E:Oracle) (q:Bool),(Xe E (.binB q)=(false))/\(Xe E (.binNil q)=(false)))/\
  (∀(E:Oracle) (b:Nat) (q:Bool) (k:IntKind) (m:Nat) (vs:List DV) (h:HF) (n:Nat),XG E b (.binAgg q k m) vs h n=(WY q k m vs))/\
  (∀(E:Oracle) (q:Bool) (k:IntKind) (m:Nat) (vs:List DV),Xr E (.binAgg q k m) vs=(false))/\
  (∀(E:Oracle) (q:Bool) (k:IntKind) (m:Nat),Xe E (.binAgg q k m)=(false))/\
  (∀(E:Oracle) (b:Nat) (o:UnOp) (vs:List DV) (h:HF) (n:Nat),XG E b (.un o) vs h n=(opUn o vs))/\
  (∀(E:Oracle) (o:UnOp) (vs:List DV),Xr E (.un o) vs=(false))/\
  (∀(E:Oracle) (o:UnOp),Xe E (.un o)=(false))/\
  (∀(E:Oracle) (b:Nat) (k:IntKind) (vs:List DV) (h:HF) (n:Nat),XG E b (.conv k) vs h n=(opConv k vs))/\
  (∀(E:Oracle) (k:IntKind) (vs:List DV),Xr E (.conv k) vs=(false))/\
  (∀(E:Oracle) (k:IntKind),Xe E (.conv k)=(false))/\
  (∀(E:Oracle) (b:Nat) (m p:Nat) (vs:List DV) (h:HF) (n:Nat),XG E b (.indexA m p) vs h n=(U7 m p vs))/\
  (∀(E:Oracle) (m p:Nat) (vs:List DV),Xr E (.indexA m p) vs=(false))/\
  (∀(E:Oracle) (m p:Nat),Xe E (.indexA m p)=(false))/\
  (∀(E:Oracle) (b:Nat) (m:Nat) (a:Bool) (p:Nat) (vs:List DV) (h:HF) (n:Nat),XG E b (.indexV m a p) vs h n=(Us m a p vs))/\
  (∀(E:Oracle) (m:Nat) (a:Bool) (p:Nat) (vs:List DV),Xr E (.indexV m a p) vs=(false))/\
  (∀(E:Oracle) (m:Nat) (a:Bool) (p:Nat),Xe E (.indexV m a p)=(false))/\
  (∀(E:Oracle) (b:Nat) (a:Bool) (m p:Nat) (vs:List DV) (h:HF) (n:Nat),XG E b (.field a m p) vs h n=(S4 a m p vs))/\
  (∀(E:Oracle) (a:Bool) (m p:Nat) (vs:List DV),Xr E (.field a m p) vs=(false))/\
  (∀(E:Oracle) (a:Bool) (m p:Nat),Xe E (.field a m p)=(false))/\
  (∀(E:Oracle) (b:Nat) (m:Nat) (lo hi:Bool) (vs:List DV) (h:HF) (n:Nat),XG E b (.slice m lo hi) vs h n=(TP m lo hi h vs))/\
  (∀(E:Oracle) (m:Nat) (lo hi:Bool) (vs:List DV),Xr E (.slice m lo hi) vs=(false))/\
  (∀(E:Oracle) (m:Nat) (lo hi:Bool),Xe E (.slice m lo hi)=(false))/\
  (∀(E:Oracle) (b:Nat) (e m p:Nat) (vs:List DV) (h:HF) (n:Nat),XG E b (.append e m p) vs h n=(Wk b e m p h n vs))/\
  (∀(E:Oracle) (e m p:Nat) (vs:List DV),Xr E (.append e m p) vs=(false))/\
  (∀(E:Oracle) (e m p:Nat),Xe E (.append e m p)=(false))/\
  (∀(E:Oracle) (b:Nat) (e:Nat) (z:List PL) (m:Nat) (vs:List DV) (h:HF) (n:Nat),XG E b (.makeSlice e z m) vs h n=(Vf e z m n vs))/\
  (∀(E:Oracle) (e:Nat) (z:List PL) (m:Nat) (vs:List DV),Xr E (.makeSlice e z m) vs=(false))/\
  (∀(E:Oracle) (e:Nat) (z:List PL) (m:Nat),Xe E (.makeSlice e z m)=(false))/\
  (∀(E:Oracle) (b:Nat) (m:Nat) (a:Bool) (vs:List DV) (h:HF) (n:Nat),XG E b (.makeMap m a) vs h n=(UI m a n vs))/\
  (∀(E:Oracle) (m:Nat) (a:Bool) (vs:List DV),Xr E (.makeMap m a) vs=(false))/\
  (∀(E:Oracle) (m:Nat) (a:Bool),Xe E (.makeMap m a)=(false))/\
  (∀(E:Oracle) (b:Nat) (m:Nat) (k:IntKind) (a:Bool) (z:List PL) (o:Bool) (vs:List DV) (h:HF) (n:Nat),XG E b (.lookup m k a z o) vs h n=(TE m k a z o h vs))/\
  (∀(E:Oracle) (m:Nat) (k:IntKind) (a:Bool) (z:List PL) (o:Bool) (vs:List DV),Xr E (.lookup m k a z o) vs=(false))/\
  (∀(E:Oracle) (m:Nat) (k:IntKind) (a:Bool) (z:List PL) (o:Bool),Xe E (.lookup m k a z o)=(false))/\
  (∀(E:Oracle) (b:Nat) (m:Nat) (k:IntKind) (a:Bool) (p:Nat) (vs:List DV) (h:HF) (n:Nat),XG E b (.mapUpdate m k a p) vs h n=(VL m k a p h vs))/\
  (∀(E:Oracle) (m:Nat) (k:IntKind) (a:Bool) (p:Nat) (vs:List DV),Xr E (.mapUpdate m k a p) vs=(false))/\
  (∀(E:Oracle) (m:Nat) (k:IntKind) (a:Bool) (p:Nat),Xe E (.mapUpdate m k a p)=(false))/\
  (∀(E:Oracle) (b:Nat) (f:Nat) (vs:List DV) (h:HF) (n:Nat),(XG E b (.makeFunc f) vs h n=(Vj f vs))/\(XG E b (.call f) vs h n=(Wc E h f vs)))/\
  (∀(E:Oracle) (f:Nat) (vs:List DV),(Xr E (.makeFunc f) vs=(false))/\(Xr E (.call f) vs=(Wy E f)))/\
  (∀(E:Oracle) (f:Nat),(Xe E (.makeFunc f)=(false))/\(Xe E (.call f)=(Wy E f))/\(Wy E f=(match E.mode f with | .pure=>false|_=>true)))/\
  (∀(E:Oracle) (b:Nat) (z:List PL) (vs:List DV) (h:HF) (n:Nat),XG E b (.clear z) vs h n=(TR b z h vs))/\
  (∀(E:Oracle) (z:List PL) (vs:List DV),Xr E (.clear z) vs=(false))/\
  (∀(E:Oracle) (z:List PL),Xe E (.clear z)=(false))/\
  (∀(base sz:Nat) (h:HF) (id ver off len:Nat) (y:DL),S5 base sz h [.one (.own id ver off len),.one y]=(match h id with |some b=>(match XX h y with |some (new,ids)=>copyIn base sz id ver off len b new ids|none=>none)|none=>none))/\
  (∀(x:DV),opMove [x]=(some ⟨x,[],[],[]⟩))/\
  (∀(c:Bool) (x y:DV),opPick [.one (.p (.bool c)),x,y]=(some ⟨bif c then x else y,[],[],[]⟩))/\
  (∀(t n:Nat) (l:DL),opBox t n [.one l]=(some ⟨.one (.ptr n 0 0 0),[⟨false,0,1,[[l]],false,t⟩],[],[]⟩))/\
  (∀(t n:Nat) (cs:List DL),opBox t n [.agg cs]=(some ⟨.one (.ptr n 0 0 0),[⟨false,0,cs.length,[cs],false,t⟩],[],[]⟩))/\
  (∀(t:Nat) (z:List PL) (n:Nat),TS t z n []=(some ⟨.one (.ptr n 0 0 0),[⟨false,0,z.length,[z.map .p],false,t⟩],[],[]⟩))/\
  (∀(o:BinOp) (k k2:IntKind) (x y:Int),opBin o [.one (.p (.int k x)),.one (.p (.int k2 y))]=(match XY o k k2 x y with |some d=>some ⟨.one d,[],[],[]⟩|none=>none))/\
  (∀(k:IntKind) (x y:Int),(XY .add k k x y=(UD k (Xd k (x+y))))/\(XY .sub k k x y=(UD k (Xd k (x-y))))/\(XY .mul k k x y=(UD k (Xd k (x*y))))/\(XY .eql k k x y=(Uz (eqF x y)))/\(XY .neq k k x y=(Uz (!eqF x y)))/\(XY .lss k k x y=(Uz (ltF x y)))/\(XY .leq k k x y=(Uz (leF x y)))/\(XY .gtr k k x y=(Uz (ltF y x)))/\(XY .geq k k x y=(Uz (leF y x)))/\(XY .quo k k x y=(Ua k x y))/\(XY .rem k k x y=(V0 k x y))/\(XY .or k k x y=(UD k (VA k (Nat.lor (X7 k x) (X7 k y)))))/\(XY .and k k x y=(UD k (VA k (Nat.land (X7 k x) (X7 k y))))))/\
  (∀(k k2:IntKind) (x y:Int),(XY .shl k k2 x y=(binShl k x y))/\(XY .shr k k2 x y=(Sf k x y)))/\
  (∀(k:IntKind) (n:Int),(UD k n=(some (.p (.int k n))))/\(opUn .neg [.one (.p (.int k n))]=(some ⟨.one (.p (.int k (Xd k (0-n)))),[],[],[]⟩))/\(PL.scalar (.int k n)=(true)))/\
  (∀(c:Bool),(Uz c=(some (.p (.bool c))))/\(opUn .not [.one (.p (.bool c))]=(some ⟨.one (.p (.bool (!c))),[],[],[]⟩)))/\
  (∀(k k2:IntKind) (n:Int),opConv k [.one (.p (.int k2 n))]=(some ⟨.one (.p (.int k (Xd k n))),[],[],[]⟩))/\
  (∀(q x y:Bool),opBinB q [.one (.p (.bool x)),.one (.p (.bool y))]=(some ⟨.one (.p (.bool ((x==y)!=q))),[],[],[]⟩))/\
  ((TQ [.one (.p .nilS)]=(some ⟨.one (.p (.int .i64 (.ofNat 0))),[],[],[]⟩))/\(Sc []=(true))/\(cF=(.c (.one (.bool false))))/\(cT=(.c (.one (.bool true))))/\(PL.scalar (.nilS)=(true))/\(PL.scalar (.junk)=(true))/\((!true)=(false))/\((!false)=(true))/\((true==true)=(true))/\((false==false)=(true))/\((true==false)=(false))/\((false==true)=(false))/\((true !=true)=(false))/\((false !=false)=(false))/\((true !=false)=(true))/\((false !=true)=(true)))/\
  (∀(es:List (List PL)),(TQ [.one (.p (.lst es))]=(some ⟨.one (.p (.int .i64 (.ofNat es.length))),[],[],[]⟩))/\(PL.scalar (.lst es)=(false)))/\
  (∀(i v o l:Nat),TQ [.one (.own i v o l)]=(some ⟨.one (.p (.int .i64 (.ofNat l))),[],[],[]⟩))/\
  (∀(m:Nat) (cs:List PL),Vg m [.one (.p (.ref cs))]=(bif Nat.ble m cs.length then some ⟨.one (.p (.ref (cs.drop m))),[],[],[]⟩else none))/\
  (∀(m i v j o:Nat),Vg m [.one (.ptr i v j o)]=(some ⟨.one (.ptr i v j (o+m)),[],[],[]⟩))/\
  (∀(m:Nat) (vs:List DV),UJ m [.tup vs]=(match vs[m]? with |some v=>some ⟨v,[],[],[]⟩|none=>none))/\
  (∀(sz:Nat) (h:HF) (es:List (List PL)) (k:IntKind) (i:Nat),WH sz h [.one (.p (.lst es)),.one (.p (.int k (.ofNat i)))]=(match es[i]? with |some c=>(bif Nat.beq c.length sz then some ⟨.one (.p (.ref c)),[],[],[]⟩else none)|none=>none))/\
  (∀(sz:Nat) (h:HF) (id ver off len:Nat) (k:IntKind) (i:Nat),WH sz h [.one (.own id ver off len),.one (.p (.int k (.ofNat i)))]=(match h id with |some b=>(bif Nat.beq b.sz sz&&Nat.blt i len then some ⟨.one (.ptr id ver (off+i) 0),[],[],[id]⟩else none)|none=>none))/\
  (∀(m p:Nat) (cs:List PL) (k:IntKind) (i:Nat),U7 m p [.one (.p (.ref cs)),.one (.p (.int k (.ofNat i)))]=(bif Nat.blt i m&&Nat.ble (i*p) cs.length then some ⟨.one (.p (.ref (cs.drop (i*p)))),[],[],[]⟩else none))/\
  (∀(m p id ver j o:Nat) (k:IntKind) (i:Nat),U7 m p [.one (.ptr id ver j o),.one (.p (.int k (.ofNat i)))]=(bif Nat.blt i m then some ⟨.one (.ptr id ver j (o+i*p)),[],[],[]⟩else none))/\
  (∀(a:Bool) (m:Nat) (h:HF) (cs:List PL),S3 a m h [.one (.p (.ref cs))]=(match Uf a m (cs.map .p)with |some v=>some ⟨v,[],[],[]⟩|none=>none))/\
  (∀(a:Bool) (m:Nat) (h:HF) (id ver i off:Nat),S3 a m h [.one (.ptr id ver i off)]=(match UZ h id ver i with |some c=>(bif Nat.ble off c.length then(match Uf a m (c.drop off)with |some v=>some ⟨v,[],[],[id]⟩|none=>none)else none)|none=>none))/\
  (∀(h:HF) (id ver i:Nat),UZ h id ver i=(match h id with |some b=>(bif Nat.beq b.ver ver&& !b.mp then b.ch[i]? else none)|none=>none))/\
  (∀(m:Nat) (c:DL) (cs:List DL),Uf false m (c::cs)=(some (.one c)))/\
  (∀(m:Nat) (cs:List DL),Uf true m cs=(bif Nat.ble m cs.length then some (.agg (cs.take m))else none))/\
  (∀(b m:Nat) (h:HF) (id ver i off:Nat) (x:DV),TO b m h [.one (.ptr id ver i off),x]=(match h id with |some k=>(match x.cells with |some cs=>SQ b m id ver i off k cs|none=>none)|none=>none))/\
  (∀(l:DL),(DV.one l).cells=(some [l]))/\
  (∀(cs:List DL),((DV.agg cs).cells=(some cs))/\(fillD cs [] []=(some cs)))/\
  (∀(base sz id ver i off:Nat) (b:Blk) (cs:List DL),SQ base sz id ver i off b cs=(bif Nat.beq b.ver ver&& !b.mp&& !b.fz&&Nat.beq cs.length sz&&(Nat.ble base id||T9 cs)then(match b.ch[i]? with |some c=>(bif Nat.ble (off+sz) c.length then some ⟨.tup [],[],[(id,{b with ch:=b.ch.set i (c.take off++cs++c.drop (off+sz))})],[id]⟩else none)|none=>none)else none))/\
  (∀(e:Nat) (z:List PL) (m n:Nat) (k k2:IntKind) (l c:Nat),Vf e z m n [.one (.p (.int k (.ofNat l))),.one (.p (.int k2 (.ofNat c)))]=(bif Nat.ble l c&&Nat.ble (m*c) lim&&Nat.ble c 9223372036854775807 then some ⟨.one (.own n 0 0 l),[⟨false,0,z.length,List.replicate l (z.map .p),false,e⟩],[],[]⟩else none))/\
  (∀(i:Nat) (rd wr af:List Nat) (lo hi:Nat) (fs:List Foot),Sc (⟨i,rd,wr,af,lo,hi⟩::fs)=(wr.isEmpty&&Nat.beq lo hi&&Sc fs))/\
  (∀(n:Nat),(cI n=(.int .i64 (.ofNat n)))/\(cN n=(.int .i64 (.negSucc n)))/\(cW n=(.int .u32 (.ofNat n)))/\(cQ n=(.int .u64 (.ofNat n)))/\(cB n=(.int .u8 (.ofNat n)))/\(cC n=(.c (.one (.int .i64 (.ofNat n)))))/\(Vr [] n=([]))/\(Nat.beq n n=(true))/\((n==n)=(true))/\(Nat.ble 0 n=(true))/\(n+0=(n))/\(0+n=(n)))/\
  (∀(d:Nat) (op:XOp) (a:List XOpd),oP d op a=(⟨some d,op,a,none,[]⟩))/\
  (∀(d:Nat) (op:XOp) (a:List XOpd) (af:List Nat),oA d op a af=(⟨some d,op,a,none,af⟩))/\
  (∀(d:Nat) (op:XOp) (a:List XOpd) (g:Nat) (b:Bool) (af:List Nat),oG d op a g b af=(⟨some d,op,a,some (g,b),af⟩))/\
  (∀(op:XOp) (a:List XOpd) (af:List Nat),oN op a af=(⟨none,op,a,none,af⟩))/\
  (∀(d t:Nat),mV d t=(⟨some d,.move,[.t t],none,[]⟩))/\
  (∀(d t:Nat) (af:List Nat),mA d t af=(⟨some d,.move,[.t t],none,af⟩))/\
  (∀(d:Nat) (c:XOpd),mC d c=(⟨some d,.move,[c],none,[]⟩))/\
  (∀(l:List XOper),(rG l=(.region false l))/\(rD l=(.region true l)))/\
  (∀(x y:XCode),sQ x y=(.seq x y))/\
  (∀(rs:List (Nat×Option (Bool×Nat))) (s:St),finP rs s=(match Xl (X3 s) rs with |some ds=>(match Xl (Xw (Xi s.H)) ds with |some ps=>some (packP ps)|none=>none)|none=>none))/\
  (∀(v:DV) (vs:List DV) (n:Nat),Vr (v::vs) n=((n,v)::Vr vs (n+1)))/\
  (∀(s:St) (t:Nat),X3 s (t,none)=(Xf s.T t))/\
  (∀(s:St) (t:Nat) (a:Bool) (sz:Nat),X3 s (t,some (a,sz))=(match Xf s.T t with |some (.one (.ptr id ver i off))=>(match s.H[id]? with |some b=>(bif Nat.beq b.ver ver&& !b.mp then(match b.ch[i]? with |some c=>(bif a then(bif Nat.ble (off+sz) c.length then some (.agg ((c.drop off).take sz))else none)else(match c.drop off with |d::_=>some (.one d)|[]=>none))|none=>none)else none)|none=>none)|_=>none))/\
  (∀(v:PV),packP [v]=(v))/\
  (∀(u v:PV) (r:List PV),packP (u::v::r)=(.tup (u::v::r)))/\
  (∀(h:HF) (l:PL),Xw h (.one (.p l))=(some (.one l)))/\
  (∀(h:HF) (id ver off len:Nat),(Xw h (.one (.own id ver off len))=(match Xn 6 h (.own id ver off len)with |some l=>some (.one l)|none=>none))/\(XX h (.own id ver off len)=(match h id with |some b=>(bif Nat.beq b.ver ver&& !b.mp&&Nat.ble (off+len) b.ch.length then some ((b.ch.drop off).take len,[id])else none)|none=>none)))/\
  (∀(h:HF) (cs:List DL),(Xw h (.agg cs)=(match Xl (Xn 6 h) cs with |some cs=>some (.agg cs)|none=>none))/\(UC h (.agg cs)=(cs.flatMap (Wt 6 h))))/\
  (∀(n:Nat) (h:HF) (l:PL),(Xn n h (.p l)=(some l))/\(Wt n h (.p l)=([])))/\
  (∀(n:Nat) (h:HF) (id ver off len:Nat),(Xn (n+1) h (.own id ver off len)=(match h id with |some b=>(bif Nat.beq b.ver ver&& !b.mp&&Nat.ble (off+len) b.ch.length then(match Xl (Xl (Xn n h)) ((b.ch.drop off).take len)with |some es=>some (.lst es)|none=>none)else none)|none=>none))/\(Wt (n+1) h (.own id ver off len)=(match h id with |some b=>id::((b.ch.drop off).take len).flatMap (fun c=>c.flatMap (Wt n h))|none=>[])))/\
  (∀(h:HF) (l:DL),UC h (.one l)=(Wt 6 h l))/\
  (∀(E:Oracle) (h:HF) (f:Nat) (vs:List DV),Wc E h f vs=(match E.mode f with | .pure=>(match Xl (Xw h) vs with |some ps=>(match E.pure f ps with |some r=>(bif(vs.flatMap (UC h)).isEmpty||r.scalar then some ⟨inj r,[],[],vs.flatMap (UC h)⟩else some ⟨inj r,[],(vs.flatMap (UC h)).filterMap (fun id=>(h id).map fun b=>(id,{b with fz:=true})),vs.flatMap (UC h)⟩)|none=>none)|none=>none)|_=>none))/\
  (∀(b:Bool),(PL.scalar (.bool b)=(true))/\((true&&b)=(b))/\((false&&b)=(false))/\((b&&true)=(b))/\((b&&false)=(false))/\((true||b)=(true))/\((false||b)=(b))/\((b||true)=(true))/\((b||false)=(b)))/\
  (∀(s:List Nat),PL.scalar (.str s)=(true))/\
  (∀(a:Bool) (m p:Nat) (cs:List DL),S4 a m p [.agg cs]=(bif Nat.ble p cs.length then(match Uf a m (cs.drop p)with |some v=>some ⟨v,[],[],[]⟩|none=>none)else none))/\
  (∀(z:List PL) (pl:List (Nat×Nat)) (vs:List DV),S6 z pl vs=(match fillD (z.map .p) pl vs with |some cs=>some ⟨.agg cs,[],[],[]⟩|none=>none))/\
  (∀(cs:List DL) (off sz:Nat) (ps:List (Nat×Nat)) (v:DV) (vs:List DV),fillD cs ((off,sz)::ps) (v::vs)=(match v.cells with |some ds=>(bif Nat.beq ds.length sz&&Nat.ble (off+sz) cs.length then fillD (cs.take off++ds++cs.drop (off+sz)) ps vs else none)|none=>none))/\
  (∀(e:Nat) (z:List PL) (m:Nat) (pl:List Nat) (n:Nat) (vs:List DV),WW e z m pl n vs=(match fillC z.length (List.replicate m (z.map .p)) pl vs with |some cs=>some ⟨.one (.own n 0 0 m),[⟨false,0,z.length,cs,false,e⟩],[],[]⟩|none=>none))/\
  (∀(sz:Nat) (cs:List (List DL)),fillC sz cs [] []=(some cs))/\
  (∀(sz:Nat) (cs:List (List DL)) (i:Nat) (ps:List Nat) (v:DV) (vs:List DV),fillC sz cs (i::ps) (v::vs)=(match v.cells with |some ds=>(bif Nat.beq ds.length sz&&Nat.blt i cs.length then fillC sz (cs.set i ds) ps vs else none)|none=>none))/\
  (∀(sz:Nat) (lo hi:Bool) (h:HF) (vs:List DV),TP sz lo hi h vs=(match WT lo hi vs with |some (x,l,u)=>(match X6 sz h x l u with |some (d,rd)=>some ⟨.one d,[],[],rd⟩|none=>none)|none=>none))/\
  (∀(x:DL),WT false false [.one x]=(some (x,0,none)))/\
  (∀(x:DL) (k:IntKind) (a:Nat),(WT true false [.one x,.one (.p (.int k (.ofNat a)))]=(some (x,a,none)))/\(WT false true [.one x,.one (.p (.int k (.ofNat a)))]=(some (x,0,some a))))/\
  (∀(x:DL) (k k2:IntKind) (a c:Nat),WT true true [.one x,.one (.p (.int k (.ofNat a))),.one (.p (.int k2 (.ofNat c)))]=(some (x,a,some c)))/\
  (∀(sz:Nat) (h:HF) (es:List (List PL)) (l:Nat),X6 sz h (.p (.lst es)) l none=(bif Nat.ble l es.length&&Nat.ble es.length es.length&&TK sz es[l]? then some (.p (.lst ((es.take es.length).drop l)),[])else none))/\
  (∀(sz:Nat) (h:HF) (es:List (List PL)) (l u:Nat),X6 sz h (.p (.lst es)) l (some u)=(bif Nat.ble l u&&Nat.ble u es.length&&TK sz es[l]? then some (.p (.lst ((es.take u).drop l)),[])else none))/\
  (∀(sz:Nat) (h:HF) (l:Nat),X6 sz h (.p .nilS) l none=(bif Nat.beq l 0&&Nat.beq 0 0 then some (.p .nilS,[])else none))/\
  (∀(sz:Nat) (h:HF) (l u:Nat),X6 sz h (.p .nilS) l (some u)=(bif Nat.beq l 0&&Nat.beq u 0 then some (.p .nilS,[])else none))/\
  (∀(sz:Nat) (c:List PL),TK sz (some c)=(Nat.beq c.length sz))/\
  (∀(sz:Nat),TK sz none=(true))/\
  (∀(base e sz by_:Nat) (h:HF) (n:Nat) (y:DL),Wk base e sz by_ h n [.one (.p .nilS),.one y]=(match XX h y with |some (new,ids)=>(bif new.all (fun c=>Nat.beq c.length sz)then X8 e sz by_ n new ids else none)|none=>none))/\
  (∀(base e sz by_:Nat) (h:HF) (n id ver len:Nat) (y:DL),Wk base e sz by_ h n [.one (.own id ver 0 len),.one y]=(match XX h y with |some (new,ids)=>(bif new.all (fun c=>Nat.beq c.length sz)then(match h id with |some b=>(bif Nat.beq b.ch.length len then VX base e sz by_ id ver len b new ids else Tg base e sz id ver len b new ids)|none=>none)else none)|none=>none))/\
  (∀(base e sz by_ id ver len:Nat) (b:Blk) (new:List (List DL)) (ids:List Nat),VX base e sz by_ id ver len b new ids=(bif Nat.beq b.ver ver&& !b.mp&& !b.fz&&Nat.beq b.ch.length len&&Nat.beq b.sz sz&&Nat.beq b.ty e&&Nat.ble base id&&Nat.ble ((len+new.length)*by_) lim&&Nat.ble (len+new.length) 9223372036854775807 then some ⟨.one (.own id (ver+1) 0 (len+new.length)),[],[(id,{b with ver:=ver+1,ch:=b.ch++new})],id::ids⟩else none))/\
  (∀(h:HF),XX h (.p .nilS)=(some ([],[])))/\
  (∀(h:HF) (es:List (List PL)),XX h (.p (.lst es))=(some (es.map (·.map .p),[])))/\
  (∀(α:Type) (x y:α),(cond true x y=(x))/\(cond false x y=(y)))/\
  (∀(α β:Type) (f:α->β),List.map f []=([]))/\
  (∀(α β:Type) (f:α->β) (x:α) (l:List α),List.map f (x::l)=(f x::List.map f l))/\
  (∀(α:Type),(([]:List α).length=(0))/\(([]:List α).isEmpty=(true)))/\
  (∀(α:Type) (x:α) (l:List α),((x::l).length=(l.length+1))/\((x::l)[0]? =(some x))/\((x::l).isEmpty=(false)))/\
  (∀(α:Type) (x:α) (l:List α) (n:Nat),((x::l)[n+1]? =(l[n]?))/\((x::l).take (n+1)=(x::l.take n))/\((x::l).drop (n+1)=(l.drop n)))/\
  (∀(α:Type) (x y:α) (l:List α),(x::l).set 0 y=(y::l))/\
  (∀(α:Type) (x y:α) (l:List α) (n:Nat),(x::l).set (n+1) y=(x::l.set n y))/\
  (∀(α:Type) (x:α) (l m:List α),x::l++m=(x::(l++m)))/\
  (∀(α:Type) (l:List α),([]++l=(l))/\(l++[]=(l))/\(l.take 0=([]))/\(l.drop 0=(l)))/\
  (∀(α:Type) (n:Nat),(([]:List α).take n=([]))/\(([]:List α).drop n=([])))/\
  (∀(α:Type) (p:α->Bool),List.all [] p=(true))/\
  (∀(α:Type) (p:α->Bool) (x:α) (l:List α),List.all (x::l) p=((p x&&List.all l p)))/\
  (∀(α β:Type) (f:α->List β),List.flatMap f []=([]))/\
  (∀(α β:Type) (f:α->List β) (x:α) (l:List α),List.flatMap f (x::l)=(f x++List.flatMap f l))/\
  (∀(α:Type) (x:α),(List.replicate 0 x=([]))/\(List.replicate 1 x=([x]))/\(List.replicate 2 x=([x,x]))/\(List.replicate 3 x=([x,x,x])))/\
  (∀(α β:Type) (f:α->Option β) (x:α) (l:List α),List.filterMap f (x::l)=((match f x with |none=>List.filterMap f l|some b=>b::List.filterMap f l)))/\
  (∀(α β:Type) (f:α->β) (x:α),Option.map f (some x)=(some (f x)))
theorem EVQ:EVq:=by
 refine⟨?_,?_,?_,?_,?_,?_,?_,?_,?_,?_,?_,?_,?_,?_,?_,?_,?_,?_,?_,?_,?_,?_,?_,?_,?_,?_,?_,?_,?_,?_,?_,?_,?_,?_,?_,?_,?_,?_,?_,?_,?_,?_,?_,?_,?_,?_,?_,?_,?_,?_,?_,?_,?_,?_,?_,?_,?_,?_,?_,?_,?_,?_,?_,?_,?_,?_,?_,?_,?_,?_,?_,?_,?_,?_,?_,?_,?_,?_,?_,?_,?_,?_,?_,?_,?_,?_,?_,?_,?_,?_,?_,?_,?_,?_,?_,?_,?_,?_,?_,?_,?_,?_,?_,?_,?_,?_,?_,?_,?_,?_,?_,?_,?_,?_,?_,?_,?_,?_,?_,?_,?_,?_,?_,?_,?_,?_,?_,?_,?_,?_,?_,?_,?_,?_,?_,?_,?_,?_,?_,?_,?_,?_,?_,?_,?_,?_,?_,?_,?_,?_,?_,?_,?_,?_,?_,?_,?_,?_,?_,?_,?_,?_,?_,?_,?_,?_,?_,?_,?_,?_,?_,?_,?_,?_,?_,?_,?_,?_,?_,?_,?_,?_,?_,?_⟩<;>intros<;>(repeat' apply And.intro)<;>first |rfl|exact Vv ..|exact mapO_two ..|exact frzL0 ..|exact idsL0 ..|exact app_nil ..|exact app_own ..|(simp only[Xp,TG];done)|(simp only[Wi,Up,SD,valK_eq,wrK_eq,alK_eq];rfl)|(rename_i k _ _;cases k<;>rfl)|(rename_i b;cases b<;>rfl)|exact YH _|exact beq_self_eq_true _|exact ZO _|simp
abbrev EVw (cE:Oracle->Nat->Nat->XCode->St->Option (Ex×St))(lK:Oracle->Nat->Nat->List Nat->XCode->Nat->St->Option (Ex×St))(oD:Oracle->Nat->Nat->List XOper->St->Option (St×List Foot))(oS:Oracle->Nat->List XOper->St->Option St)(oR:Oracle->Nat->Bool->XOper->St->Option (St×List Nat×List Nat))(dS:Oracle->Nat->List XOper->List XOper->St->Option St)(dD:Oracle->Nat->List XOper->St->Option St):Prop:=(∀(E:Oracle) (K b:Nat) (s:St),(cE E K b .skip s=(some (.normal,s)))/\(cE E K b .ret s=(some (.ret,s))))/\
  (∀(E:Oracle) (K b:Nat) (s:St) (ops:List XOper),(cE E K b (.region false ops) s=(match oS E b ops s with |some s=>some (.normal,s)|none=>none))/\(cE E K b (.region true ops) s=(match dD E b ops s with |some s=>some (.normal,s)|none=>none)))/\
  (∀(E:Oracle) (K b:Nat) (s:St) (p u:List XOper),cE E K b (.regionS p u) s=(match dS E b p u s with |some s=>some (.normal,s)|none=>none))/\
  (∀(E:Oracle) (K b:Nat) (s:St) (x y:XCode),cE E K b (.seq x y) s=(match cE E K b x s with |some (.normal,s)=>cE E K b y s|r=>r))/\
  (∀(E:Oracle) (K b:Nat) (s:St) (c:XOpd) (x y:XCode),cE E K b (.cond c x y) s=(match c.eval s.T with |some (.one (.p (.bool true)))=>cE E K b x s|some (.one (.p (.bool false)))=>cE E K b y s|_=>none))/\
  (∀(E:Oracle) (K b:Nat) (s:St) (i:Nat) (x:XCode),cE E K b (.block i x) s=(match cE E K b x s with |some (.exit j,s)=>bif j==i then some (.normal,s)else some (.exit j,s)|r=>r))/\
  (∀(E:Oracle) (K b:Nat) (s:St) (ks:List Nat) (x:XCode),(cE E K b (.loop (.keep ks x)) s=(lK E K b ks x K ⟨WR s.T ks,s.H⟩))/\(cE E K b (.keep ks x) s=(cE E K b x ⟨WR s.T ks,s.H⟩)))/\
  (∀(E:Oracle) (K b:Nat) (s:St) (x:XCode),cE E K b (.scope x) s=(cE E K b x s))/\
  (∀(E:Oracle) (K b:Nat) (s:St) (i:Nat),cE E K b (.exit i) s=(some (.exit i,s)))/\
  (∀(E:Oracle) (b:Nat) (s:St),oS E b [] s=(some s))/\
  (∀(E:Oracle) (b:Nat) (s:St) (o:XOper) (os:List XOper),oS E b (o::os) s=(match oR E b true o s with |some (s,_,_)=>oS E b os s|none=>none))/\
  (∀(E:Oracle) (b:Nat) (hp:Bool) (s:St) (dst:Option Nat) (op:XOp) (args:List XOpd) (g:Option (Nat×Bool)) (af:List Nat),oR E b hp ⟨dst,op,args,g,af⟩ s=(match VC s.T g with |none=>none|some false=>some (⟨putT s.T dst (.tup []),s.H⟩,[],[])|some true=>(match Xl (XOpd.eval s.T) args with |none=>none|some vs=>bif hp&&Xr E op vs then SC E ⟨dst,op,args,g,af⟩ vs s else(match XG E b op vs (Xi s.H) s.H.length with |some r=>some (⟨putT s.T dst r.val,addAl (WM s.H r.wr) r.al⟩,r.rd,r.wr.map (·.1))|none=>none))))/\
  (∀(E:Oracle) (b:Nat) (ops:List XOper) (s:St),dD E b ops s=(match oD E b 0 ops s with |some (s,fs)=>(if Sc fs=true then some s else(if Tr fs=true then some s else none))|none=>none))/\
  (∀(E:Oracle) (b:Nat) (p u:List XOper) (s:St),dS E b p u s=(match dD E b p s with |some s=>oS E b u s|none=>none))/\
  (∀(E:Oracle) (b i:Nat) (s:St),oD E b i [] s=(some (s,[])))/\
  (∀(E:Oracle) (b i:Nat) (o:XOper) (os:List XOper) (s:St),oD E b i (o::os) s=(bif Xe E o.op&& !(os.isEmpty&&Th o.after i)then none else(match oR E b (Xe E o.op) o s with |some (s1,rd,wr)=>(match oD E b (i+1) os s1 with |some (s2,fs)=>some (s2,⟨i,rd,wr,o.after,s.H.length,s1.H.length⟩::fs)|none=>none)|none=>none)))/\
  (∀(E:Oracle) (K nt:Nat) (rs:List (Nat×Option (Bool×Nat))) (c:XCode) (args:List PV),Ux E K ⟨nt,rs,c⟩ args=(bif Nat.ble (args.map inj).length nt then(match cE E K 0 c ⟨Vr (args.map inj) 0,[]⟩with |some (.normal,s)=>finP rs s|some (.ret,s)=>finP rs s|_=>none)else none))
theorem EVW:EVw Xp Xa Vy Vi Wi Re Vz:=by
 refine⟨?_,?_,?_,?_,?_,?_,?_,?_,?_,?_,?_,?_,?_,?_,?_,?_,?_⟩<;>intros<;>(repeat' apply And.intro)<;>first |rfl|exact evDraw_if ..|exact loop_loopK ..|exact pureF_eq ..|(simp only[Xp,TG];done)|(simp only[Wi,Up,SD,valK_eq,wrK_eq,alK_eq];rfl)|(rename_i k _ _;cases k<;>rfl)|(rename_i b;cases b<;>rfl)|exact YH _|exact beq_self_eq_true _|exact ZO _|simp
theorem EVS:EVw Xp Xa Vy Vi Wi Re Vz/\EVq:=⟨EVW,EVQ⟩
theorem EVF:(∀fs,Tr fs=fs.all fun f=>(f.wr.isEmpty&&Nat.beq f.lo f.hi)||fs.all fun g=>footOk f g)/\
  (∀f g,footOk f g=(Nat.beq f.i g.i||(f.wr.all (fun id=> !(g.wr.contains id)&&(!(g.rd.contains id)||f.after.contains g.i))&&g.rd.all (fun id=> !(Nat.ble f.lo id&&Nat.ble (id+1) f.hi)||g.after.contains f.i)&&g.wr.all (fun id=> !(Nat.ble f.lo id&&Nat.ble (id+1) f.hi)||g.after.contains f.i))))/\
  (∀(x y:Nat) (l:List Nat),(y::l).contains x=(decide (x=y)||l.contains x))/\(∀x:Nat,([]:List Nat).contains x=false)/\
  (∀(G:List Blk) (y:Blk),(G++[y])[G.length]? =some y)/\(∀(G:List Blk) (x y:Blk),(G++[x,y])[G.length+1]? =some y)/\(∀(G:List Blk) (x y:Blk),(G++[x,y])[G.length]? =some x)/\
  (∀(G:List Blk) (x y:Blk),(G++[x])++[y]=G++[x,y])/\(∀(G:List Blk) (x:Blk),(G++[x]).length=G.length+1)/\(∀(G:List Blk) (x y:Blk),(G++[x,y]).length=G.length+2)/\
  (∀(G:List Blk) (x y:Blk),(G++[x]).set G.length y=G++[y])/\(∀(G:List Blk) (x y z:Blk),(G++[x,y]).set (G.length+1) z=G++[x,z])/\(∀(G:List Blk) (x y z:Blk),(G++[x,y]).set G.length z=G++[z,y])/\
  (∀n:Nat,(n=n+1)=False)/\(∀n:Nat,(n+1=n)=False)/\(∀n:Nat,(n+1<=n)=False)/\(∀n:Nat,(n<=n+1)=True)/\(∀n:Nat,(n=n+2)=False)/\(∀n:Nat,(n+2=n)=False)/\(∀n:Nat,(n+2<=n)=False)/\(∀n:Nat,(n<=n+2)=True)/\(∀n:Nat,(n=n+3)=False)/\(∀n:Nat,(n+3=n)=False)/\(∀n:Nat,(n+3<=n)=False)/\(∀n:Nat,(n<=n+3)=True)/\(∀n:Nat,(n=n+4)=False)/\(∀n:Nat,(n+4=n)=False)/\(∀n:Nat,(n+4<=n)=False)/\(∀n:Nat,(n<=n+4)=True)/\(∀n:Nat,(n<=n)=True):=by
 refine⟨fun _=>rfl,fun _ _=>rfl,fun x y l=> ?_,fun _=>rfl,?_,?_,?_,?_,?_,?_,?_,?_,?_,?_,?_,?_,?_,?_,?_,?_,?_,?_,?_,?_,?_,?_,?_,?_,?_,?_⟩
 ·simp only[List.contains_cons];congr 1
 all_goals intros;first |(simp;done)|(simp only[eq_iff_iff,iff_false,iff_true];omega)
theorem wrap_i64 {a:Nat}(h:a<9223372036854775808):Xd .i64 (.ofNat a)=.ofNat a:=wrap_nat h
theorem wrap_u64 (a:Nat):Xd .u64 (.ofNat a)=.ofNat (a%18446744073709551616):=rfl
theorem wrap_u32 (a:Nat):Xd .u32 (.ofNat a)=.ofNat (a%4294967296):=rfl
theorem Um {a b:Nat}(h:b<=a):(Int.ofNat a-Int.ofNat b)=Int.ofNat (a-b):=by simp only[ZH];omega
theorem XI {a b:Nat}(h:b<=a)(h2:a<9223372036854775808):Xd .i64 (.ofNat a-.ofNat b)=.ofNat (a-b):=by
 rw[Um h];exact wrap_nat (by omega)
theorem sub_neg {a b:Nat}(h:a<b):(Int.ofNat a-Int.ofNat b)=Int.negSucc (b-a-1):=by
 simp only[ZH,Int.negSucc_eq];omega
theorem sub_u64 {a b:Nat}(h:b<=18446744073709551616):Xd .u64 (.ofNat a-.ofNat b)=.ofNat ((a+(18446744073709551616-b))%18446744073709551616):=by
 by_cases hb:b<=a
 ·rw[Um hb,wrap_u64];congr 1;omega
 ·rw[sub_neg (by omega)]
  show VA .u64 (X7 .u64 (.negSucc (b-a-1)))=_
  have :X7 .u64 (.negSucc (b-a-1))=(a+(18446744073709551616-b))%18446744073709551616:=by
   simp only[X7,Tm];omega
  rw[this];rfl
theorem blt_dec (a b:Nat):Nat.blt a b=decide (a<b):=by
 by_cases h:a<b
 ·rw[blt_t h];simp[h]
 ·rw[blt_f (by omega)];simp[h]
theorem ble_dec (a b:Nat):Nat.ble a b=decide (a<=b):=by
 by_cases h:a<=b
 ·rw[T5 h];simp[h]
 ·rw[ble_f (by omega)];simp[h]
theorem beq_dec (a b:Nat):Nat.beq a b=decide (a=b):=by
 by_cases h:a=b
 ·rw[beq_t h];simp[h]
 ·rw[beq_f h];simp[h]
theorem ltF_nn (a b:Nat):ltF (.ofNat a) (.ofNat b)=decide (a<b):=blt_dec a b
theorem eqF_nn (a b:Nat):eqF (.ofNat a) (.ofNat b)=decide (a=b):=beq_dec a b
theorem leF_nn (a b:Nat):leF (.ofNat a) (.ofNat b)=decide (a<=b):=by
 unfold leF;rw[ltF_nn]
 by_cases h:a<=b
 ·simp[h,Nat.not_lt.2 h]
 ·simp[h,Nat.lt_of_not_le h]
def pI:Nat->Int
 |0=>.negSucc 0
 |n+1=>.ofNat n
theorem WV {n:Nat}(h:n<9223372036854775808):Xd .i64 (.ofNat n-.ofNat 1)=pI n:=by
 cases n with
 |zero=>rfl
 |succ n=>exact XI (by omega) h
theorem EVN:(∀a b,ltF (.ofNat a) (.ofNat b)=decide (a<b))/\(∀a b,ltF (.ofNat a) (.negSucc b)=false)/\(∀a b,ltF (.negSucc a) (.ofNat b)=true)/\
  (∀a b,leF (.ofNat a) (.ofNat b)=decide (a<=b))/\(∀a b,leF (.ofNat a) (.negSucc b)=false)/\(∀a b,leF (.negSucc a) (.ofNat b)=true)/\
  (∀a b,eqF (.ofNat a) (.ofNat b)=decide (a=b))/\(∀a b,eqF (.ofNat a) (.negSucc b)=false)/\(∀a b,eqF (.negSucc a) (.ofNat b)=false)/\(∀a b,eqF (.negSucc a) (.negSucc b)=decide (a=b))/\
  (∀a b,Nat.blt a b=decide (a<b))/\(∀a b,Nat.ble a b=decide (a<=b))/\(∀a b,Nat.beq a b=decide (a=b))/\
  (∀a b:Nat,(Int.ofNat a+Int.ofNat b)=Int.ofNat (a+b))/\(∀a b:Nat,(Int.ofNat a*Int.ofNat b)=Int.ofNat (a*b))/\
  (∀a,Xd .u64 (.ofNat a)=.ofNat (a%18446744073709551616))/\(∀a,Xd .u32 (.ofNat a)=.ofNat (a%4294967296))/\
  (∀a,Sf .u64 (.ofNat a) (.ofNat 32)=some (.p (.int .u64 (.ofNat (a / 4294967296)))))/\(∀a,Sf .u64 (.ofNat a) (.ofNat 63)=some (.p (.int .u64 (.ofNat (a / 9223372036854775808)))))/\
  (∀k a b,Ua k (.ofNat a) (.ofNat (b+1))=some (.p (.int k (Xd k (.ofNat (a / (b+1)))))))/\(∀k a b,V0 k (.ofNat a) (.ofNat (b+1))=some (.p (.int k (.ofNat (a%(b+1))))))/\
  (decide True=true)/\(decide False=false)/\((!decide True)=false)/\((!decide False)=true)/\((false=true)=False):=by
 refine⟨ltF_nn,fun _ _=>rfl,fun _ _=>rfl,leF_nn,fun _ _=>rfl,fun _ _=>rfl,eqF_nn,fun _ _=>rfl,fun _ _=>rfl,fun a b=>beq_dec a b,blt_dec,ble_dec,beq_dec,fun _ _=>rfl,fun _ _=>rfl,fun _=>rfl,fun _=>rfl,fun _=>rfl,fun _=>rfl,fun _ _ _=>rfl,fun _ _ _=>rfl,rfl,rfl,rfl,rfl,by simp⟩
structure Base where
 E0:Oracle
 X:Nat->Option XFunc
 le:∀K,OLe E0 (lift X K E0)
def Base.E (B:Base)(K n:Nat):Oracle:=ev B.E0 B.X K n
def Evt (B:Base)(p:Oracle->Nat->Prop):Prop:=∃N,∀K n,N<=K->N<=n->p (B.E K n) K
section
variable {B:Base}{p q:Oracle->Nat->Prop}
theorem Evt.and (h:Evt B p)(k:Evt B q):Evt B fun E K=>p E K/\q E K:=by
 obtain⟨N,hN⟩:=h
 obtain⟨M,hM⟩:=k
 exact⟨max N M,fun K n h1 h2=>⟨hN K n (by omega) (by omega),hM K n (by omega) (by omega)⟩⟩
theorem Evt.mono (h:Evt B p)(k:∀E K,p E K->q E K):Evt B q:=by
 obtain⟨N,hN⟩:=h
 exact⟨N,fun K n h1 h2=>k _ _ (hN K n h1 h2)⟩
theorem Evt.of (k:∀K n,p (B.E K n) K):Evt B p:=⟨0,fun K n _ _=>k K n⟩
theorem Evt.ge (m:Nat):Evt B fun _ K=>m<=K:=⟨m,fun _ _ h _=>h⟩
theorem Evt.all {p:Nat->Oracle->Nat->Prop}:∀(n:Nat),(∀i,i<n->Evt B (p i))->Evt B fun E K=>∀i,i<n->p i E K
 |0,_=>Evt.of fun _ _ i h=>by omega
 |n+1,h=>by
  refine((Evt.all n fun i hi=>h i (by omega)).and (h n (by omega))).mono fun E K ⟨h1,h2⟩ i hi=> ?_
  by_cases e:i=n
  ·subst e;exact h2
  ·exact h1 i (by omega)
def Ret (B:Base)(f:Nat)(a:List PV)(r:PV):Prop:=∃K n,(B.E K n).pure f a=some r
def Va (B:Base)(f:Nat)(a:List DV)(H:List Blk)(d:DV)(H':List Blk):Prop:=∃K n,(B.E K n).heap f a H=some (d,H')
variable {f:Nat}{a:List PV}{r:PV}{H H':List Blk}{d:DV}{ad:List DV}{xf:XFunc}
theorem Base.E_le {K K' n m:Nat}(h:K<=K')(k:n<=m):OLe (B.E K n) (B.E K' m):=ev_le B.E0 B.X B.le h k
theorem Ret.evt (h:Ret B f a r):Evt B fun E _=>E.pure f a=some r:=by
 obtain⟨K,n,h⟩:=h
 exact⟨max K n,fun K' m h1 h2=>(B.E_le (by omega) (by omega)).pure f a r h⟩
theorem Va.evt (h:Va B f ad H d H'):Evt B fun E _=>E.heap f ad H=some (d,H'):=by
 obtain⟨K,n,h⟩:=h
 exact⟨max K n,fun K' m h1 h2=>(B.E_le (by omega) (by omega)).heap f ad H _ h⟩
theorem Ret.of (hx:B.X f=some xf)(h:Evt B fun E K=>Ux E K xf a=some r):Ret B f a r:=by
 obtain⟨N,hN⟩:=h
 refine⟨N,N+1,?_⟩
 show(match B.X f with
  |some xf=>Ux (B.E N N) N xf a
  |none=>(B.E N N).pure f a)=some r
 rw[hx];exact hN N N (Zg _) (Zg _)
theorem Va.of (hx:B.X f=some xf)(h:Evt B fun E K=>VD E K xf ad H=some (d,H')):Va B f ad H d H':=by
 obtain⟨N,hN⟩:=h
 refine⟨N,N+1,?_⟩
 show(match B.X f with
  |some xf=>VD (B.E N N) N xf ad H
  |none=>(B.E N N).heap f ad H)=some (d,H')
 rw[hx];exact hN N N (Zg _) (Zg _)
theorem Va.base (h:B.E0.heap f ad H=some (d,H')):Va B f ad H d H':=⟨0,0,h⟩
theorem Base.mode (K n:Nat):(B.E K n).mode=B.E0.mode:=by
 induction n with
 |zero=>rfl
 |succ n ih=>exact ih
theorem Evt.mode:Evt B fun E _=>E.mode=B.E0.mode:=Evt.of fun K n=>Base.mode K n
end
end Go.Ev
namespace Go.Ev
def finD (rs:List (Nat×Option (Bool×Nat)))(s:St):Option (DV×List Blk):=
 match Xl (X3 s) rs with
 |some ds=>bif ds.all DV.plain then some (packD ds,s.H)else none
 |none=>none
theorem heapF_eq (E:Oracle)(K nt:Nat)(rs:List (Nat×Option (Bool×Nat)))(c:XCode)(args:List DV)(H:List Blk):VD E K ⟨nt,rs,c⟩ args H=(bif Nat.ble args.length nt then(match Xp E K 0 c ⟨Vr args 0,H⟩with |some (.normal,s)=>finD rs s|some (.ret,s)=>finD rs s|_=>none)else none):=by
 unfold VD UN
 rw[argsK_eq]
 cases Nat.ble args.length nt with
 |false=>rfl
 |true=>
  simp only[cond_true]
  rcases Xp E K 0 c ⟨Vr args 0,H⟩with _|⟨_|_|_,s⟩
  ·rfl
  ·simp only[finD];cases Xl (X3 s) rs<;>rfl
  ·rfl
  ·simp only[finD];cases Xl (X3 s) rs<;>rfl
theorem EVH:(∀(E:Oracle) (K nt:Nat) (rs:List (Nat×Option (Bool×Nat))) (c:XCode) (args:List DV) (H:List Blk),VD E K ⟨nt,rs,c⟩ args H=(bif Nat.ble args.length nt then(match Xp E K 0 c ⟨Vr args 0,H⟩with |some (.normal,s)=>finD rs s|some (.ret,s)=>finD rs s|_=>none)else none))/\
  (∀(s:St),finD [] s=some (.tup [],s.H))/\
  (∀(s:St) (x:Nat×Option (Bool×Nat)),finD [x] s=(match X3 s x with |some d=>bif DV.plain d then some (d,s.H)else none|none=>none))/\
  (∀(s:St) (x y:Nat×Option (Bool×Nat)),finD [x,y] s=(match X3 s x with |some d=>(match X3 s y with |some e=>bif DV.plain d&&DV.plain e then some (.tup [d,e],s.H)else none|none=>none)|none=>none))/\
  (∀l,DV.plain (.one l)=true)/\(∀l,DV.plain (.agg l)=true)/\
  (∀(E:Oracle) (dst:Option Nat) (f:Nat) (args:List XOpd) (g:Option (Nat×Bool)) (af:List Nat) (vs:List DV) (s:St),SC E ⟨dst,.call f,args,g,af⟩ vs s=Wq E dst f vs s)/\
  (∀(E:Oracle) (dst:Option Nat) (f:Nat) (vs:List DV) (s:St),Wq E dst f vs s=(match E.mode f with
   | .heap=>(match E.heap f vs s.H with
     |some (v,H)=>some (⟨putT s.T dst v,H⟩,[],[])
     |none=>none)
   | .pure=>none)):=by
 refine⟨heapF_eq,fun s=>rfl,fun s x=> ?_,fun s x y=> ?_,fun _=>rfl,fun _=>rfl,fun _ _ _ _ _ _ _ _=>rfl,fun E dst f vs s=> ?_⟩
 ·simp only[finD,Xl]
  cases X3 s x<;>simp[packD]
 ·simp only[finD,Xl]
  cases X3 s x<;>cases X3 s y<;>simp[packD]
 ·unfold Wq
  cases E.mode f with
  |pure=>rfl
  |heap=>cases E.heap f vs s.H with
   |none=>rfl
   |some p=>simp only[Up]
theorem EVG:(∀(G L:List Blk),(G++L)[G.length]? =L[0]?)/\(∀(G L:List Blk) (k:Nat),(G++L)[G.length+k]? =L[k]?)/\(∀(G L:List Blk) (k:Nat),(G++L)[G.length+1+k]? =L[1+k]?)/\
  (∀(G L:List Blk) (x:Blk),(G++L).set G.length x=G++L.set 0 x)/\(∀(G L:List Blk) (k:Nat) (x:Blk),(G++L).set (G.length+k) x=G++L.set k x)/\
  (∀(x:Blk) (L:List Blk),(x::L)[0]? =some x)/\(∀(x:Blk) (L:List Blk) (k:Nat),(x::L)[k+1]? =L[k]?)/\(∀(x y:Blk) (L:List Blk),(x::L).set 0 y=y::L)/\(∀(x y:Blk) (L:List Blk) (k:Nat),(x::L).set (k+1) y=x::L.set k y)/\
  (∀(x y:Blk) (L:List Blk),(x::y::L)[1]? =some y)/\(∀(x y z:Blk) (L:List Blk),(x::y::z::L)[2]? =some z)/\(∀(x y z u:Blk) (L:List Blk),(x::y::z::u::L)[3]? =some u)/\
  (∀(x y w:Blk) (L:List Blk),(x::y::L).set 1 w=x::w::L)/\(∀(x y z w:Blk) (L:List Blk),(x::y::z::L).set 2 w=x::y::w::L)/\(∀(x y z u w:Blk) (L:List Blk),(x::y::z::u::L).set 3 w=x::y::z::w::L):=by
 refine⟨fun G L=> ?_,fun G L k=> ?_,fun G L k=> ?_,fun G L x=> ?_,fun G L k x=> ?_,fun _ _=>rfl,fun _ _ _=>rfl,fun _ _ _=>rfl,fun _ _ _ _=>rfl,fun _ _ _=>rfl,fun _ _ _ _=>rfl,fun _ _ _ _ _=>rfl,fun _ _ _ _=>rfl,fun _ _ _ _ _=>rfl,fun _ _ _ _ _ _=>rfl⟩
 ·rw[ZB (Zg _),YN]
 ·rw[ZB (Nat.le_add_right ..),Yx]
 ·rw[ZB (by omega)]
  congr 1;omega
 ·rw[List.set_append_right _ _ (Zg _),YN]
 ·rw[List.set_append_right _ _ (Nat.le_add_right ..),Yx]
theorem EVR:∃cE:Oracle->Nat->Nat->XCode->St->Option (Ex×St),∃lK:Oracle->Nat->Nat->List Nat->XCode->Nat->St->Option (Ex×St),∃oD:Oracle->Nat->Nat->List XOper->St->Option (St×List Foot),∃oS:Oracle->Nat->List XOper->St->Option St,∃oR:Oracle->Nat->Bool->XOper->St->Option (St×List Nat×List Nat),∃dS:Oracle->Nat->List XOper->List XOper->St->Option St,∃dD:Oracle->Nat->List XOper->St->Option St,
  cE=Xp/\lK=Xa/\oD=Vy/\oS=Vi/\oR=Wi/\dS=Re/\dD=Vz/\(∀(E:Oracle) (K b k:Nat) (ks:List Nat) (c:XCode) (s:St),lK E K b ks c (k+1) s=(match cE E K b c s with |some (.normal,s)=>lK E K b ks c k ⟨WR s.T ks,s.H⟩|r=>r))/\EVw cE lK oD oS oR dS dD/\∀(E:Oracle) (K nt:Nat) (rs:List (Nat×Option (Bool×Nat))) (c:XCode) (args:List DV) (H:List Blk),VD E K ⟨nt,rs,c⟩ args H=(bif Nat.ble args.length nt then(match cE E K 0 c ⟨Vr args 0,H⟩with |some (.normal,s)=>finD rs s|some (.ret,s)=>finD rs s|_=>none)else none):=by
 refine⟨Xp,Xa,Vy,Vi,Wi,Re,Vz,rfl,rfl,rfl,rfl,rfl,rfl,rfl,?_,EVW,?_⟩<;>intros<;>first |rfl|exact heapF_eq ..
end Go.Ev
