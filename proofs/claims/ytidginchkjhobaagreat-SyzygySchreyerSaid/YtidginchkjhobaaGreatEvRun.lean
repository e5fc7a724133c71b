/- The equations by which simp runs the interpreter over symbolic values (written by gen_evrun.py). -/
import Derived.Test.YtidginchkjhobaaGreatEvTop
set_option maxRecDepth 100000
namespace Go.Ev
def Xb (E:Xa)(K b:Nat)(ks:P')(c:XH):Nat->St->Option (Ex×St)
 |0,_=>none
 |k+1,s=>match XI E K b c s with
  |some (.normal,s)=>Xb E K b ks c k ⟨V3 s.T ks,s.H⟩
  |r=>r
theorem wW (E)(K b)(a:P')(c:XH):∀k (s:St),OO (fun s=>XI E K b (.VM a c) s) k s=Xb E K b a c k ⟨V3 s.T a,s.H⟩
 |0,_=>rfl
 |k+1,s=>by
  have e:XI E K b (.VM a c) s=XI E K b c ⟨V3 s.T a,s.H⟩:=by simp only[XI,Qn]
  have d:=wW E K b a c k;simp only[OO,Xb];rw[e];rcases XI E K b c ⟨V3 s.T a,s.H⟩with _|⟨_|_|_,s1⟩
  ·rfl
  ·exact d s1
  ·rfl
  ·rfl
theorem u5 (E)(K b)(s:St)(a:P')(c:XH):XI E K b (.loop (.VM a c)) s=Xb E K b a c K ⟨V3 s.T a,s.H⟩:=by
 simp only[XI];exact wW E K b a c K s
def vy (rs:List (Nat×Option (Bool×Nat)))(s:St):Option PV:=
 match Xv (WH s) rs with
 |some ds=>(match Xv (XT (Xj s.H)) ds with
  |some ps=>some (eI ps)
  |none=>none)
 |none=>none
theorem BM (E)(K b)(a:List (Nat×Option (Bool×Nat)))(c:XH)(args:List PV):UX E K ⟨b,a,c⟩ args=(bif Nat.ble (args.map inj).length b then(match XI E K 0 c ⟨UZ (args.map inj) 0,[]⟩with |some (.normal,s)=>vy a s|some (.ret,s)=>vy a s|_=>none)else none):=by
 unfold UX Qu;rw[Nb];cases Nat.ble (args.map inj).length b with
 |false=>rfl
 |true=>
  simp only[cond_true];rcases XI E K 0 c ⟨UZ (args.map inj) 0,[]⟩with _|⟨_|_|_,s⟩
  ·rfl
  ·simp only[vy];cases Xv (WH s) a<;>rfl
  ·rfl
  ·simp only[vy];cases Xv (WH s) a<;>rfl
def QT:List QA->Bool
 |[]=>true
 |f::fs=>f.wr.isEmpty&&Nat.beq f.lo f.hi&&QT fs
theorem eG:∀{a:List QA},QT a=true->NT a
 |[],_=>trivial
 |f::a,h=>by
  simp only[QT,Zs,List.isEmpty_iff]at h;exact⟨⟨h.1.1,Zl h.1.2⟩,eG h.2⟩
theorem Ac (E)(b)(a:F')(s:St):TB E b a s=(match Tg E b 0 a s with |some (s,fs)=>(if QT fs=true then some s else(if RZ fs=true then some s else none))|none=>none):=by
 unfold TB;rcases Tg E b 0 a s with _|⟨s1,fs⟩
 ·rfl
 ·show(bif RZ fs then some s1 else none)=(if QT fs=true then some s1 else(if RZ fs=true then some s1 else none));by_cases c:QT fs=true
  ·rw[if_pos c,Fz (eG c),cond_true]
  ·rw[if_neg c];cases RZ fs<;>rfl
theorem mJ (n)(h)(l):XC n h (.p l)=some l:=by cases n<;>rfl
theorem mG (n)(h)(l):Vk n h (.p l)=[]:=by cases n<;>rfl
theorem FW (a e d b)(h)(n)(y):Vh a e d b h n [.one (.p .Xq),.one y]=(match Wv h y with |some (new,ids)=>(bif new.all (fun c=>Nat.beq c.length d)then WZ e d b n new ids else none)|none=>none):=by
 simp only[Vh];rfl
theorem FV (a e g f)(h)(n id XM d)(y):Vh a e g f h n [.one (.own id XM 0 d),.one y]=(match Wv h y with |some (new,ids)=>(bif new.all (fun c=>Nat.beq c.length g)then(match h id with |some b=>(bif Nat.beq b.ch.length d then Tv a e g f id XM d b new ids else Ry a e g id XM d b new ids)|none=>none)else none)|none=>none):=by
 simp only[Vh];rfl
theorem Cj (b e:Type)(f:b->Option e)(x:b)(a:List b):Xv f (x::a)=(match f x with |none=>none|some y=>(match Xv f a with |none=>none|some d=>some (y::d))):=by
 cases h:f x with
 |none=>simp only[Xv,h]
 |some y=>cases c:Xv f a<;>simp only[Xv,h,c]
abbrev Lg:Prop:=(∀(T:List (Nat×DV)),(UW T none=(some true))/\(V3 T []=([])))/\
  (∀(T:List (Nat×DV)) t w,UW T (some (t,w))=(match Xh T t with |some (.one (.p (.bool b)))=>some (b==w)|some (.X9 [])=>some false|_=>none))/\
  (∀(α β:Type) (f:α->Option β),(Xv f []=(some []))/\(List.filterMap f []=([])))/\
  (∀(α β:Type) (f:α->Option β) x (xs:List α),Xv f (x::xs)=(match f x with |none=>none|some y=>(match Xv f xs with |none=>none|some ys=>some (y::ys))))/\
  (∀(T:List (Nat×DV)) n,Vs.eval T (.t n)=(Xh T n))/\
  (∀(T:List (Nat×DV)) v,Vs.eval T (.c v)=(some (inj v)))/\
  (∀l,(inj (.one l)=(.one (.p l)))/\(oE (.one l)=(.one (.p l)))/\((PV.one l).scalar=(l.scalar))/\((PV.one l).Nt=(l.scalar)))/\
  (∀(cs:N'),(inj (.agg cs)=(.agg (cs.map .p)))/\(oE (.agg cs)=(.agg (cs.map .p)))/\((PV.agg cs).scalar=(cs.all PL.scalar))/\((PV.agg cs).Nt=(cs.all PL.scalar))/\(PL.scalar (.ref cs)=(false)))/\
  (∀(vs:List PV),(inj (.X9 vs)=(.X9 (vs.map oE)))/\((PV.X9 vs).scalar=(vs.all PV.Nt)))/\
  (∀t v (T:List (Nat×DV)) n,Xh ((t,v)::T) n=(if t=n then some v else Xh T n))/\
  (∀(T:List (Nat×DV)) k (ks:P'),V3 T (k::ks)=(match Xh T k with |some v=>(k,v)::V3 T ks|none=>V3 T ks))/\
  (∀(T:List (Nat×DV)) d v,OD T (some d) v=((d,v)::T))/\
  (∀(T:List (Nat×DV)) v,OD T none v=(T))/\
  (∀(H:V'),(VZ H []=(H))/\(Ng H []=(H)))/\
  (∀(H:V') i (x:Xx) (ws:List (Nat×Xx)),VZ H ((i,x)::ws)=(VZ (H.set i x) ws))/\
  (∀(H:V') (x:Xx) (xs:V'),Ng H (x::xs)=(H++x::xs))/\
  (∀(H:V') i,Xj H i=(H[i]?))/\
  (∀E b vs h n,(We E b (.move) vs h n=(ao vs))/\(We E b (.nilCheck) vs h n=(S1 vs))/\(We E b (.pick) vs h n=(ak vs))/\(We E b (.len) vs h n=(Oa vs))/\(We E b (.max) vs h n=(Qg SR vs))/\(We E b (.min) vs h n=(Qg (fun a b=>SR b a) vs))/\(We E b (.OP) vs h n=(TE h vs))/\(We E b (.slice3) vs h n=(Pg vs))/\(We E b (.Sd) vs h n=(Rc E h vs)))/\
  (∀E vs,(XL E (.move) vs=(false))/\(XL E (.nilCheck) vs=(false))/\(XL E (.pick) vs=(false))/\(XL E (.len) vs=(false))/\(XL E (.max) vs=(false))/\(XL E (.min) vs=(false))/\(XL E (.OP) vs=(false))/\(XL E (.slice3) vs=(false)))/\
  (∀E,(Xl E (.move)=(false))/\(Xl E (.nilCheck)=(false))/\(Xl E (.pick)=(false))/\(Xl E (.len)=(false))/\(Xl E (.max)=(false))/\(Xl E (.min)=(false))/\(Xl E (.OP)=(false))/\(Xl E (.slice3)=(false)))/\
  (∀E b t vs h n,We E b (.box t) vs h n=(bH t n vs))/\
  (∀E t vs,XL E (.box t) vs=(false))/\
  (∀E t,Xl E (.box t)=(false))/\
  (∀E b t (z:N') vs h n,We E b (.alloc t z) vs h n=(QF t z n vs))/\
  (∀E t (z:N') vs,XL E (.alloc t z) vs=(false))/\
  (∀E t (z:N'),Xl E (.alloc t z)=(false))/\
  (∀E b (z:N') (pl:List (Nat×Nat)) vs h n,We E b (.build z pl) vs h n=(PU z pl vs))/\
  (∀E (z:N') (pl:List (Nat×Nat)) vs,XL E (.build z pl) vs=(false))/\
  (∀E (z:N') (pl:List (Nat×Nat)),Xl E (.build z pl)=(false))/\
  (∀E b e (z:N') m (pl:P') vs h n,We E b (.buildSlice e z m pl) vs h n=(Uc e z m pl n vs))/\
  (∀E e (z:N') m (pl:P') vs,XL E (.buildSlice e z m pl) vs=(false))/\
  (∀E e (z:N') m (pl:P'),Xl E (.buildSlice e z m pl)=(false))/\
  (∀E b a m vs h n,We E b (.load a m) vs h n=(PR a m h vs))/\
  (∀E a m vs,XL E (.load a m) vs=(false))/\
  (∀E a m,Xl E (.load a m)=(false))/\
  (∀E b m vs h n,(We E b (.store m) vs h n=(QC b m h vs))/\(We E b (.fieldAddr m) vs h n=(Uv m vs))/\(We E b (.P1 m) vs h n=(VV m h vs))/\(We E b (.extract m) vs h n=(S3 m vs))/\(We E b (.Cn m) vs h n=(aq m vs))/\(We E b (.copy m) vs h n=(PT b m h vs)))/\
  (∀E m vs,(XL E (.store m) vs=(false))/\(XL E (.fieldAddr m) vs=(false))/\(XL E (.P1 m) vs=(false))/\(XL E (.extract m) vs=(false))/\(XL E (.Cn m) vs=(false))/\(XL E (.copy m) vs=(false)))/\
  (∀E m,(Xl E (.store m)=(false))/\(Xl E (.fieldAddr m)=(false))/\(Xl E (.P1 m)=(false))/\(Xl E (.extract m)=(false))/\(Xl E (.Cn m)=(false))/\(Xl E (.copy m)=(false)))/\
  (∀E b o vs h n,We E b (.bin o) vs h n=(iR o vs))/\
  (∀E o vs,XL E (.bin o) vs=(false))/\
  (∀E o,Xl E (.bin o)=(false))/\
  (∀E b q vs h n,(We E b (.Ar q) vs h n=(au q vs))/\(We E b (.ei q) vs h n=(Uo q vs)))/\
  (∀E q vs,(XL E (.Ar q) vs=(false))/\(XL E (.ei q) vs=(false)))/\
  (∀E q,(Xl E (.Ar q)=(false))/\(Xl E (.ei q)=(false)))/\
  (∀E b q k m vs h n,We E b (.aO q k m) vs h n=(UJ q k m vs))/\
  (∀E q k m vs,XL E (.aO q k m) vs=(false))/\
  (∀E q k m,Xl E (.aO q k m)=(false))/\
  (∀E b o vs h n,We E b (.un o) vs h n=(iQ o vs))/\
  (∀E o vs,XL E (.un o) vs=(false))/\
  (∀E o,Xl E (.un o)=(false))/\
  (∀E b k vs h n,We E b (.conv k) vs h n=(ar k vs))/\
  (∀E k vs,XL E (.conv k) vs=(false))/\
  (∀E k,Xl E (.conv k)=(false))/\
  (∀E b m p vs h n,We E b (.jo m p) vs h n=(Ro m p vs))/\
  (∀E m p vs,XL E (.jo m p) vs=(false))/\
  (∀E m p,Xl E (.jo m p)=(false))/\
  (∀E b m a p vs h n,We E b (.jn m a p) vs h n=(Sr m a p vs))/\
  (∀E m a p vs,XL E (.jn m a p) vs=(false))/\
  (∀E m a p,Xl E (.jn m a p)=(false))/\
  (∀E b a m p vs h n,We E b (.field a m p) vs h n=(PS a m p vs))/\
  (∀E a m p vs,XL E (.field a m p) vs=(false))/\
  (∀E a m p,Xl E (.field a m p)=(false))/\
  (∀E b m lo hi vs h n,We E b (.slice m lo hi) vs h n=(QD m lo hi h vs))/\
  (∀E m lo hi vs,XL E (.slice m lo hi) vs=(false))/\
  (∀E m lo hi,Xl E (.slice m lo hi)=(false))/\
  (∀E b e m p vs h n,We E b (.append e m p) vs h n=(Vh b e m p h n vs))/\
  (∀E e m p vs,XL E (.append e m p) vs=(false))/\
  (∀E e m p,Xl E (.append e m p)=(false))/\
  (∀E b e (z:N') m vs h n,We E b (.makeSlice e z m) vs h n=(Uu e z m n vs))/\
  (∀E e (z:N') m vs,XL E (.makeSlice e z m) vs=(false))/\
  (∀E e (z:N') m,Xl E (.makeSlice e z m)=(false))/\
  (∀E b m a vs h n,We E b (.makeMap m a) vs h n=(T8 m a n vs))/\
  (∀E m a vs,XL E (.makeMap m a) vs=(false))/\
  (∀E m a,Xl E (.makeMap m a)=(false))/\
  (∀E b m k a (z:N') o vs h n,We E b (.lookup m k a z o) vs h n=(U9 m k a z o h vs))/\
  (∀E m k a (z:N') o vs,XL E (.lookup m k a z o) vs=(false))/\
  (∀E m k a (z:N') o,Xl E (.lookup m k a z o)=(false))/\
  (∀E b m k a p vs h n,We E b (.mapUpdate m k a p) vs h n=(VA m k a p h vs))/\
  (∀E m k a p vs,XL E (.mapUpdate m k a p) vs=(false))/\
  (∀E m k a p,Xl E (.mapUpdate m k a p)=(false))/\
  (∀E b f vs h n,(We E b (.makeFunc f) vs h n=(U8 f vs))/\(We E b (.call f) vs h n=(VB E h f vs)))/\
  (∀E f vs,(XL E (.makeFunc f) vs=(false))/\(XL E (.call f) vs=(NH E f)))/\
  (∀E f,(Xl E (.makeFunc f)=(false))/\(Xl E (.call f)=(Ts E f))/\(Ts E f=(match E.mode f with | .heap=>true|_=>false))/\(NH E f=(match E.mode f with | .heap=>true| .fresh=>true|_=>false)))/\
  (∀E b (z:N') vs h n,We E b (.clear z) vs h n=(QE b z h vs))/\
  (∀E (z:N') vs,XL E (.clear z) vs=(false))/\
  (∀E (z:N'),Xl E (.clear z)=(false))/\
  (∀base sz h id XM off len y,PT base sz h [.one (.own id XM off len),.one y]=(match h id with |some b=>(match Wv h y with |some (new,ids)=>O4 base sz id XM off len b new ids|none=>none)|none=>none))/\
  (∀x,ao [x]=(some ⟨x,[],[],[]⟩))/\
  (∀c x y,ak [.one (.p (.bool c)),x,y]=(some ⟨bif c then x else y,[],[],[]⟩))/\
  (∀t n l,bH t n [.one l]=(some ⟨.one (.ptr n 0 0 0),[⟨false,0,1,[[l]],false,t⟩],[],[]⟩))/\
  (∀t n (cs:Y'),bH t n [.agg cs]=(some ⟨.one (.ptr n 0 0 0),[⟨false,0,cs.length,[cs],false,t⟩],[],[]⟩))/\
  (∀t (z:N') n,QF t z n []=(some ⟨.one (.ptr n 0 0 0),[⟨false,0,z.length,[z.map .p],false,t⟩],[],[]⟩))/\
  (∀o k k2 (x y:Int),iR o [.one (.p (.int k x)),.one (.p (.int k2 y))]=(match Wx o k k2 x y with |some d=>some ⟨.one d,[],[],[]⟩|none=>none))/\
  (∀k (x y:Int),(Wx .add k k x y=(SM k (Xe k (x+y))))/\(Wx .sub k k x y=(SM k (Xe k (x-y))))/\(Wx .mul k k x y=(SM k (Xe k (x*y))))/\(Wx .eql k k x y=(SC (Oi x y)))/\(Wx .neq k k x y=(SC (!Oi x y)))/\(Wx .lss k k x y=(SC (SR x y)))/\(Wx .leq k k x y=(SC (w9 x y)))/\(Wx .gtr k k x y=(SC (SR y x)))/\(Wx .geq k k x y=(SC (w9 y x)))/\(Wx .quo k k x y=(Tk k x y))/\(Wx .rem k k x y=(T5 k x y))/\(Wx .or k k x y=(SM k (UU k (Nat.lor (WR k x) (WR k y)))))/\(Wx .and k k x y=(SM k (UU k (Nat.land (WR k x) (WR k y))))))/\
  (∀k k2 (x y:Int),(Wx .shl k k2 x y=(aN k x y))/\(Wx .shr k k2 x y=(QX k x y)))/\
  (∀k (n:Int),(SM k n=(some (.p (.int k n))))/\(iQ .neg [.one (.p (.int k n))]=(some ⟨.one (.p (.int k (Xe k (0-n)))),[],[],[]⟩))/\(PL.scalar (.int k n)=(true)))/\
  (∀c,(SC c=(some (.p (.bool c))))/\(iQ .not [.one (.p (.bool c))]=(some ⟨.one (.p (.bool (!c))),[],[],[]⟩)))/\
  (∀k k2 (n:Int),ar k [.one (.p (.int k2 n))]=(some ⟨.one (.p (.int k (Xe k n))),[],[],[]⟩))/\
  (∀q x y,au q [.one (.p (.bool x)),.one (.p (.bool y))]=(some ⟨.one (.p (.bool ((x==y)!=q))),[],[],[]⟩))/\
  ((Oa [.one (.p .Xq)]=(some ⟨.one (.p (.int .i64 (.ofNat 0))),[],[],[]⟩))/\(QT []=(true))/\(cF=(.c (.one (.bool false))))/\(cT=(.c (.one (.bool true))))/\(PL.scalar (.Xq)=(true))/\(PL.scalar (.Qo)=(true))/\((!true)=(false))/\((!false)=(true))/\((true==true)=(true))/\((false==false)=(true))/\((true==false)=(false))/\((false==true)=(false))/\((true !=true)=(false))/\((false !=false)=(false))/\((true !=false)=(true))/\((false !=true)=(true)))/\
  (∀(es:I'),(Oa [.one (.p (.Xn es))]=(some ⟨.one (.p (.int .i64 (.ofNat es.length))),[],[],[]⟩))/\(PL.scalar (.Xn es)=(false)))/\
  (∀i v o l,Oa [.one (.own i v o l)]=(some ⟨.one (.p (.int .i64 (.ofNat l))),[],[],[]⟩))/\
  (∀m (cs:N'),Uv m [.one (.p (.ref cs))]=(bif Nat.ble m cs.length then some ⟨.one (.p (.ref (cs.drop m))),[],[],[]⟩else none))/\
  (∀m i v j o,Uv m [.one (.ptr i v j o)]=(some ⟨.one (.ptr i v j (o+m)),[],[],[]⟩))/\
  (∀m vs,S3 m [.X9 vs]=(match vs[m]? with |some v=>some ⟨v,[],[],[]⟩|none=>none))/\
  (∀sz h (es:I') k i,VV sz h [.one (.p (.Xn es)),.one (.p (.int k (.ofNat i)))]=(match es[i]? with |some c=>(bif Nat.beq c.length sz then some ⟨.one (.p (.ref c)),[],[],[]⟩else none)|none=>none))/\
  (∀sz h id XM off len k i,VV sz h [.one (.own id XM off len),.one (.p (.int k (.ofNat i)))]=(match h id with |some b=>(bif Nat.beq b.sz sz&&Nat.blt i len then some ⟨.one (.ptr id XM (off+i) 0),[],[],[id]⟩else none)|none=>none))/\
  (∀m p (cs:N') k i,Ro m p [.one (.p (.ref cs)),.one (.p (.int k (.ofNat i)))]=(bif Nat.blt i m&&Nat.ble (i*p) cs.length then some ⟨.one (.p (.ref (cs.drop (i*p)))),[],[],[]⟩else none))/\
  (∀m p id XM j o k i,Ro m p [.one (.ptr id XM j o),.one (.p (.int k (.ofNat i)))]=(bif Nat.blt i m then some ⟨.one (.ptr id XM j (o+i*p)),[],[],[]⟩else none))/\
  (∀a m h (cs:N'),PR a m h [.one (.p (.ref cs))]=(match Sa a m (cs.map .p)with |some v=>some ⟨v,[],[],[]⟩|none=>none))/\
  (∀a m h id XM i off,PR a m h [.one (.ptr id XM i off)]=(match QL h id XM i with |some c=>(bif Nat.ble off c.length then(match Sa a m (c.drop off)with |some v=>some ⟨v,[],[],[id]⟩|none=>none)else none)|none=>none))/\
  (∀h id XM i,QL h id XM i=(match h id with |some b=>(bif Nat.beq b.XM XM&& !b.mp then b.ch[i]? else none)|none=>none))/\
  (∀m c (cs:Y'),Sa false m (c::cs)=(some (.one c)))/\
  (∀m (cs:Y'),Sa true m cs=(bif Nat.ble m cs.length then some (.agg (cs.take m))else none))/\
  (∀b m h id XM i off x,QC b m h [.one (.ptr id XM i off),x]=(match h id with |some k=>(match x.cells with |some cs=>PE b m id XM i off k cs|none=>none)|none=>none))/\
  (∀l,(DV.one l).cells=(some [l]))/\
  (∀(cs:Y'),((DV.agg cs).cells=(some cs))/\(Ob cs [] []=(some cs)))/\
  (∀base sz id XM i off (b:Xx) (cs:Y'),PE base sz id XM i off b cs=(bif Nat.beq b.XM XM&& !b.mp&& !b.fz&&Nat.beq cs.length sz&&(Nat.ble base id||Wc cs)then(match b.ch[i]? with |some c=>(bif Nat.ble (off+sz) c.length then some ⟨.X9 [],[],[(id,{b with ch:=b.ch.set i (c.take off++cs++c.drop (off+sz))})],[id]⟩else none)|none=>none)else none))/\
  (∀e (z:N') m n k k2 l c,Uu e z m n [.one (.p (.int k (.ofNat l))),.one (.p (.int k2 (.ofNat c)))]=(bif Nat.ble l c&&Nat.ble (m*c) lim&&Nat.ble c 9223372036854775807 then some ⟨.one (.own n 0 0 l),[⟨false,0,z.length,List.replicate l (z.map .p),false,e⟩],[],[]⟩else none))/\
  (∀i (rd wr af:P') lo hi (fs:List QA),QT (⟨i,rd,wr,af,lo,hi⟩::fs)=(wr.isEmpty&&Nat.beq lo hi&&QT fs))/\
  (∀n,(cI n=(.int .i64 (.ofNat n)))/\(cN n=(.int .i64 (.negSucc n)))/\(cW n=(.int .u32 (.ofNat n)))/\(cQ n=(.int .u64 (.ofNat n)))/\(cB n=(.int .u8 (.ofNat n)))/\(cC n=(.c (.one (.int .i64 (.ofNat n)))))/\(UZ [] n=([]))/\(Nat.beq n n=(true))/\((n==n)=(true))/\(Nat.ble 0 n=(true))/\(n+0=(n))/\(0+n=(n)))/\
  (∀d (op:cH) (a:List Vs),oP d op a=(⟨some d,op,a,none,[]⟩))/\
  (∀d (op:cH) (a:List Vs) (af:P'),oA d op a af=(⟨some d,op,a,none,af⟩))/\
  (∀d (op:cH) (a:List Vs) g b (af:P'),oG d op a g b af=(⟨some d,op,a,some (g,b),af⟩))/\
  (∀(op:cH) (a:List Vs) (af:P'),oN op a af=(⟨none,op,a,none,af⟩))/\
  (∀d t,mV d t=(⟨some d,.move,[.t t],none,[]⟩))/\
  (∀d t (af:P'),mA d t af=(⟨some d,.move,[.t t],none,af⟩))/\
  (∀d (c:Vs),mC d c=(⟨some d,.move,[c],none,[]⟩))/\
  (∀(l:F'),(rG l=(.region false l))/\(rD l=(.region true l)))/\
  (∀(x y:XH),sQ x y=(.seq x y))/\
  (∀(α:Type) (a b:α) (h:a=b),Q a h=(b))/\
  (∀(rs:List (Nat×Option (Bool×Nat))) (s:St),vy rs s=(match Xv (WH s) rs with |some ds=>(match Xv (XT (Xj s.H)) ds with |some ps=>some (eI ps)|none=>none)|none=>none))/\
  (∀v vs n,UZ (v::vs) n=((n,v)::UZ vs (n+1)))/\
  (∀(s:St) t,WH s (t,none)=(Xh s.T t))/\
  (∀(s:St) t a sz,WH s (t,some (a,sz))=(match Xh s.T t with |some (.one (.ptr id XM i off))=>(match s.H[id]? with |some b=>(bif Nat.beq b.XM XM&& !b.mp then(match b.ch[i]? with |some c=>(bif a then(bif Nat.ble (off+sz) c.length then some (.agg ((c.drop off).take sz))else none)else(match c.drop off with |d::_=>some (.one d)|[]=>none))|none=>none)else none)|none=>none)|_=>none))/\
  (∀v,eI [v]=(v))/\
  (∀u v (r:List PV),eI (u::v::r)=(.X9 (u::v::r)))/\
  (∀h l,XT h (.one (.p l))=(some (.one l)))/\
  (∀h id XM off len,(XT h (.one (.own id XM off len))=(match XC 6 h (.own id XM off len)with |some l=>some (.one l)|none=>none))/\(Wv h (.own id XM off len)=(match h id with |some b=>(bif Nat.beq b.XM XM&& !b.mp&&Nat.ble (off+len) b.ch.length then some ((b.ch.drop off).take len,[id])else none)|none=>none)))/\
  (∀h (cs:Y'),(XT h (.agg cs)=(match Xv (XC 6 h) cs with |some cs=>some (.agg cs)|none=>none))/\(SK h (.agg cs)=(cs.flatMap (Vk 6 h))))/\
  (∀n h l,(XC n h (.p l)=(some l))/\(Vk n h (.p l)=([])))/\
  (∀n h id XM off len,(XC (n+1) h (.own id XM off len)=(match h id with |some b=>(bif Nat.beq b.XM XM&& !b.mp&&Nat.ble (off+len) b.ch.length then(match Xv (Xv (XC n h)) ((b.ch.drop off).take len)with |some es=>some (.Xn es)|none=>none)else none)|none=>none))/\(Vk (n+1) h (.own id XM off len)=(match h id with |some b=>id::((b.ch.drop off).take len).flatMap (fun c=>c.flatMap (Vk n h))|none=>[])))/\
  (∀h l,SK h (.one l)=(Vk 6 h l))/\
  (∀E h f vs,VB E h f vs=(match E.mode f with | .pure=>(match Xv (XT h) vs with |some ps=>(match E.pure f ps with |some r=>(bif(vs.flatMap (SK h)).isEmpty||r.scalar then some ⟨inj r,[],[],vs.flatMap (SK h)⟩else some ⟨inj r,[],(vs.flatMap (SK h)).filterMap (fun id=>(h id).map fun b=>(id,{b with fz:=true})),vs.flatMap (SK h)⟩)|none=>none)|none=>none)| .heap=>none|_=>WI E h f vs))/\
  (∀b,(PL.scalar (.bool b)=(true))/\((true&&b)=(b))/\((false&&b)=(false))/\((b&&true)=(b))/\((b&&false)=(false))/\((true||b)=(true))/\((false||b)=(b))/\((b||true)=(true))/\((b||false)=(b)))/\
  (∀(s:P'),PL.scalar (.str s)=(true))/\
  (∀a m p (cs:Y'),PS a m p [.agg cs]=(bif Nat.ble p cs.length then(match Sa a m (cs.drop p)with |some v=>some ⟨v,[],[],[]⟩|none=>none)else none))/\
  (∀(z:N') (pl:List (Nat×Nat)) vs,PU z pl vs=(match Ob (z.map .p) pl vs with |some cs=>some ⟨.agg cs,[],[],[]⟩|none=>none))/\
  (∀(cs:Y') off sz (ps:List (Nat×Nat)) v vs,Ob cs ((off,sz)::ps) (v::vs)=(match v.cells with |some ds=>(bif Nat.beq ds.length sz&&Nat.ble (off+sz) cs.length then Ob (cs.take off++ds++cs.drop (off+sz)) ps vs else none)|none=>none))/\
  (∀e (z:N') m (pl:P') n vs,Uc e z m pl n vs=(match Oc z.length (List.replicate m (z.map .p)) pl vs with |some cs=>some ⟨.one (.own n 0 0 m),[⟨false,0,z.length,cs,false,e⟩],[],[]⟩|none=>none))/\
  (∀sz (cs:K'),Oc sz cs [] []=(some cs))/\
  (∀sz (cs:K') i (ps:P') v vs,Oc sz cs (i::ps) (v::vs)=(match v.cells with |some ds=>(bif Nat.beq ds.length sz&&Nat.blt i cs.length then Oc sz (cs.set i ds) ps vs else none)|none=>none))/\
  (∀sz lo hi h vs,QD sz lo hi h vs=(match V7 lo hi vs with |some (x,l,u)=>(match WA sz h x l u with |some (d,rd)=>some ⟨.one d,[],[],rd⟩|none=>none)|none=>none))/\
  (∀x,V7 false false [.one x]=(some (x,0,none)))/\
  (∀x k a,(V7 true false [.one x,.one (.p (.int k (.ofNat a)))]=(some (x,a,none)))/\(V7 false true [.one x,.one (.p (.int k (.ofNat a)))]=(some (x,0,some a))))/\
  (∀x k k2 a c,V7 true true [.one x,.one (.p (.int k (.ofNat a))),.one (.p (.int k2 (.ofNat c)))]=(some (x,a,some c)))/\
  (∀sz h (es:I') l,WA sz h (.p (.Xn es)) l none=(bif Nat.ble l es.length&&Nat.ble es.length es.length&&Qx sz es[l]? then some (.p (.Xn ((es.take es.length).drop l)),[])else none))/\
  (∀sz h (es:I') l u,WA sz h (.p (.Xn es)) l (some u)=(bif Nat.ble l u&&Nat.ble u es.length&&Qx sz es[l]? then some (.p (.Xn ((es.take u).drop l)),[])else none))/\
  (∀sz h l,WA sz h (.p .Xq) l none=(bif Nat.beq l 0&&Nat.beq 0 0 then some (.p .Xq,[])else none))/\
  (∀sz h l u,WA sz h (.p .Xq) l (some u)=(bif Nat.beq l 0&&Nat.beq u 0 then some (.p .Xq,[])else none))/\
  (∀sz (c:N'),Qx sz (some c)=(Nat.beq c.length sz))/\
  (∀sz,Qx sz none=(true))/\
  (∀base e sz by_ h n y,Vh base e sz by_ h n [.one (.p .Xq),.one y]=(match Wv h y with |some (new,ids)=>(bif new.all (fun c=>Nat.beq c.length sz)then WZ e sz by_ n new ids else none)|none=>none))/\
  (∀base e sz by_ h n id XM len y,Vh base e sz by_ h n [.one (.own id XM 0 len),.one y]=(match Wv h y with |some (new,ids)=>(bif new.all (fun c=>Nat.beq c.length sz)then(match h id with |some b=>(bif Nat.beq b.ch.length len then Tv base e sz by_ id XM len b new ids else Ry base e sz id XM len b new ids)|none=>none)else none)|none=>none))/\
  (∀base e sz by_ id XM len (b:Xx) (new:K') (ids:P'),Tv base e sz by_ id XM len b new ids=(bif Nat.beq b.XM XM&& !b.mp&& !b.fz&&Nat.beq b.ch.length len&&Nat.beq b.sz sz&&Nat.beq b.ty e&&Nat.ble base id&&Nat.ble ((len+new.length)*by_) lim&&Nat.ble (len+new.length) 9223372036854775807 then some ⟨.one (.own id (XM+1) 0 (len+new.length)),[],[(id,{b with XM:=XM+1,ch:=b.ch++new})],id::ids⟩else none))/\
  (∀h,Wv h (.p .Xq)=(some ([],[])))/\
  (∀h (es:I'),Wv h (.p (.Xn es))=(some (es.map (·.map .p),[])))/\
  (∀(α:Type) (x y:α),(cond true x y=(x))/\(cond false x y=(y)))/\
  (∀(α β:Type) (f:α->β),List.map f []=([]))/\
  (∀(α β:Type) (f:α->β) x (l:List α),List.map f (x::l)=(f x::List.map f l))/\
  (∀(α:Type),(([]:List α).length=(0))/\(([]:List α).isEmpty=(true)))/\
  (∀(α:Type) x (l:List α),((x::l).length=(l.length+1))/\((x::l)[0]? =(some x))/\((x::l).isEmpty=(false)))/\
  (∀(α:Type) x (l:List α) n,((x::l)[n+1]? =(l[n]?))/\((x::l).take (n+1)=(x::l.take n))/\((x::l).drop (n+1)=(l.drop n)))/\
  (∀(α:Type) x y (l:List α),(x::l).set 0 y=(y::l))/\
  (∀(α:Type) x y (l:List α) n,(x::l).set (n+1) y=(x::l.set n y))/\
  (∀(α:Type) x (l m:List α),x::l++m=(x::(l++m)))/\
  (∀(α:Type) (l:List α),([]++l=(l))/\(l++[]=(l))/\(l.take 0=([]))/\(l.drop 0=(l)))/\
  (∀(α:Type) n,(([]:List α).take n=([]))/\(([]:List α).drop n=([])))/\
  (∀(α:Type) (p:α->Bool),List.all [] p=(true))/\
  (∀(α:Type) (p:α->Bool) x (l:List α),List.all (x::l) p=((p x&&List.all l p)))/\
  (∀(α β:Type) (f:α->List β),List.flatMap f []=([]))/\
  (∀(α β:Type) (f:α->List β) x (l:List α),List.flatMap f (x::l)=(f x++List.flatMap f l))/\
  (∀(α:Type) (x:α),(List.replicate 0 x=([]))/\(List.replicate 1 x=([x]))/\(List.replicate 2 x=([x,x]))/\(List.replicate 3 x=([x,x,x])))/\
  (∀(α β:Type) (f:α->Option β) x (l:List α),List.filterMap f (x::l)=((match f x with |none=>List.filterMap f l|some b=>b::List.filterMap f l)))/\
  (∀(α β:Type) (f:α->β) x,Option.map f (some x)=(some (f x)))
theorem TD:Lg:=by
 refine⟨?_,?_,?_,?_,?_,?_,?_,?_,?_,?_,?_,?_,?_,?_,?_,?_,?_,?_,?_,?_,?_,?_,?_,?_,?_,?_,?_,?_,?_,?_,?_,?_,?_,?_,?_,?_,?_,?_,?_,?_,?_,?_,?_,?_,?_,?_,?_,?_,?_,?_,?_,?_,?_,?_,?_,?_,?_,?_,?_,?_,?_,?_,?_,?_,?_,?_,?_,?_,?_,?_,?_,?_,?_,?_,?_,?_,?_,?_,?_,?_,?_,?_,?_,?_,?_,?_,?_,?_,?_,?_,?_,?_,?_,?_,?_,?_,?_,?_,?_,?_,?_,?_,?_,?_,?_,?_,?_,?_,?_,?_,?_,?_,?_,?_,?_,?_,?_,?_,?_,?_,?_,?_,?_,?_,?_,?_,?_,?_,?_,?_,?_,?_,?_,?_,?_,?_,?_,?_,?_,?_,?_,?_,?_,?_,?_,?_,?_,?_,?_,?_,?_,?_,?_,?_,?_,?_,?_,?_,?_,?_,?_,?_,?_,?_,?_,?_,?_,?_,?_,?_,?_,?_,?_,?_,?_,?_,?_,?_,?_,?_,?_,?_,?_,?_,?_⟩<;>intros<;>(repeat' apply And.intro)<;>first |rfl|exact UR ..|exact Cj ..|exact mJ ..|exact mG ..|exact FW ..|exact FV ..|(simp only[XI,Qn];done)|(simp only[Vp,Tq,Pr,aT,cM,jZ];rfl)|(rename_i k _ _;cases k<;>rfl)|(rename_i b;cases b<;>rfl)|exact YA _|exact beq_self_eq_true _|exact ZE _|simp
abbrev K4 (cE:Xa->Nat->Nat->XH->St->Option (Ex×St))(lK:Xa->Nat->Nat->P'->XH->Nat->St->Option (Ex×St))(oD:Xa->Nat->Nat->F'->St->Option (St×List QA))(oS:Xa->Nat->F'->St->Option St)(oR:Xa->Nat->Bool->Xy->St->Option (St×P'×P'))(dS:Xa->Nat->F'->F'->St->Option St)(dD:Xa->Nat->F'->St->Option St):Prop:=(∀(E:Xa) (K b:Nat) (s:St),(cE E K b .skip s=(some (.normal,s)))/\(cE E K b .ret s=(some (.ret,s))))/\
  (∀(E:Xa) (K b:Nat) (s:St) (ops:F'),(cE E K b (.region false ops) s=(match oS E b ops s with |some s=>some (.normal,s)|none=>none))/\(cE E K b (.region true ops) s=(match dD E b ops s with |some s=>some (.normal,s)|none=>none)))/\
  (∀(E:Xa) (K b:Nat) (s:St) (p u:F'),cE E K b (.RP p u) s=(match dS E b p u s with |some s=>some (.normal,s)|none=>none))/\
  (∀(E:Xa) (K b:Nat) (s:St) (x y:XH),cE E K b (.seq x y) s=(match cE E K b x s with |some (.normal,s)=>cE E K b y s|r=>r))/\
  (∀(E:Xa) (K b:Nat) (s:St) (c:Vs) (x y:XH),cE E K b (.cond c x y) s=(match c.eval s.T with |some (.one (.p (.bool true)))=>cE E K b x s|some (.one (.p (.bool false)))=>cE E K b y s|_=>none))/\
  (∀(E:Xa) (K b:Nat) (s:St) (i:Nat) (x:XH),cE E K b (.block i x) s=(match cE E K b x s with |some (.exit j,s)=>bif j==i then some (.normal,s)else some (.exit j,s)|r=>r))/\
  (∀(E:Xa) (K b:Nat) (s:St) (ks:P') (x:XH),(cE E K b (.loop (.VM ks x)) s=(lK E K b ks x K ⟨V3 s.T ks,s.H⟩))/\(cE E K b (.VM ks x) s=(cE E K b x ⟨V3 s.T ks,s.H⟩)))/\
  (∀(E:Xa) (K b:Nat) (s:St) (x:XH),cE E K b (.scope x) s=(cE E K b x s))/\
  (∀(E:Xa) (K b:Nat) (s:St) (i:Nat),cE E K b (.exit i) s=(some (.exit i,s)))/\
  (∀(E:Xa) (b:Nat) (s:St),oS E b [] s=(some s))/\
  (∀(E:Xa) (b:Nat) (s:St) (o:Xy) (os:F'),oS E b (o::os) s=(match oR E b true o s with |some (s,_,_)=>oS E b os s|none=>none))/\
  (∀(E:Xa) (b:Nat) (hp:Bool) (s:St) (dst:Option Nat) (op:cH) (args:List Vs) (g:Option (Nat×Bool)) (af:P'),oR E b hp ⟨dst,op,args,g,af⟩ s=(match UW s.T g with |none=>none|some false=>some (⟨OD s.T dst (.X9 []),s.H⟩,[],[])|some true=>(match Xv (Vs.eval s.T) args with |none=>none|some vs=>bif hp&&XL E op vs then Pq E ⟨dst,op,args,g,af⟩ vs s else(match We E b op vs (Xj s.H) s.H.length with |some r=>some (⟨OD s.T dst r.val,Ng (VZ s.H r.wr) r.al⟩,r.rd,r.wr.map (·.1))|none=>none))))/\
  (∀(E:Xa) (b:Nat) (ops:F') (s:St),dD E b ops s=(match oD E b 0 ops s with |some (s,fs)=>(if QT fs=true then some s else(if RZ fs=true then some s else none))|none=>none))/\
  (∀(E:Xa) (b:Nat) (p u:F') (s:St),dS E b p u s=(match dD E b p s with |some s=>oS E b u s|none=>none))/\
  (∀(E:Xa) (b i:Nat) (s:St),oD E b i [] s=(some (s,[])))/\
  (∀(E:Xa) (b i:Nat) (o:Xy) (os:F') (s:St),oD E b i (o::os) s=(bif Xl E o.op&& !(os.isEmpty&&SF o.after i)then none else(match oR E b (Xl E o.op) o s with |some (s1,rd,wr)=>(match oD E b (i+1) os s1 with |some (s2,fs)=>some (s2,⟨i,rd,wr,o.after,s.H.length,s1.H.length⟩::fs)|none=>none)|none=>none)))/\
  (∀(E:Xa) (K nt:Nat) (rs:List (Nat×Option (Bool×Nat))) (c:XH) (args:List PV),UX E K ⟨nt,rs,c⟩ args=(bif Nat.ble (args.map inj).length nt then(match cE E K 0 c ⟨UZ (args.map inj) 0,[]⟩with |some (.normal,s)=>vy rs s|some (.ret,s)=>vy rs s|_=>none)else none))
theorem Lh:K4 XI Xb Tg UY Vp P3 TB:=by
 refine⟨?_,?_,?_,?_,?_,?_,?_,?_,?_,?_,?_,?_,?_,?_,?_,?_,?_⟩<;>intros<;>(repeat' apply And.intro)<;>first |rfl|exact Ac ..|exact u5 ..|exact BM ..|(simp only[XI,Qn];done)|(simp only[Vp,Tq,Pr,aT,cM,jZ];rfl)|(rename_i k _ _;cases k<;>rfl)|(rename_i b;cases b<;>rfl)|exact YA _|exact beq_self_eq_true _|exact ZE _|simp
theorem Xo:K4 XI Xb Tg UY Vp P3 TB/\Lg:=⟨Lh,TD⟩
theorem VR:(∀a,RZ a=a.all fun f=>(f.wr.isEmpty&&Nat.beq f.lo f.hi)||a.all fun g=>OV f g)/\
  (∀f g,OV f g=(Nat.beq f.i g.i||(f.wr.all (fun id=> !(g.wr.contains id)&&(!(g.rd.contains id)||f.after.contains g.i))&&g.rd.all (fun id=> !(Nat.ble f.lo id&&Nat.ble (id+1) f.hi)||g.after.contains f.i)&&g.wr.all (fun id=> !(Nat.ble f.lo id&&Nat.ble (id+1) f.hi)||g.after.contains f.i))))/\
  (∀x y (l:P'),(y::l).contains x=(decide (x=y)||l.contains x))/\(∀x:Nat,([]:P').contains x=false)/\
  (∀(G:V') (y:Xx),(G++[y])[G.length]? =some y)/\(∀(G:V') (x y:Xx),(G++[x,y])[G.length+1]? =some y)/\(∀(G:V') (x y:Xx),(G++[x,y])[G.length]? =some x)/\
  (∀(G:V') (x y:Xx),(G++[x])++[y]=G++[x,y])/\(∀(G:V') (x:Xx),(G++[x]).length=G.length+1)/\(∀(G:V') (x y:Xx),(G++[x,y]).length=G.length+2)/\
  (∀(G:V') (x y:Xx),(G++[x]).set G.length y=G++[y])/\(∀(G:V') (x y z:Xx),(G++[x,y]).set (G.length+1) z=G++[x,z])/\(∀(G:V') (x y z:Xx),(G++[x,y]).set G.length z=G++[z,y])/\
  (∀n:Nat,(n=n+1)=False)/\(∀n:Nat,(n+1=n)=False)/\(∀n:Nat,(n+1<=n)=False)/\(∀n:Nat,(n<=n+1)=True)/\(∀n:Nat,(n=n+2)=False)/\(∀n:Nat,(n+2=n)=False)/\(∀n:Nat,(n+2<=n)=False)/\(∀n:Nat,(n<=n+2)=True)/\(∀n:Nat,(n=n+3)=False)/\(∀n:Nat,(n+3=n)=False)/\(∀n:Nat,(n+3<=n)=False)/\(∀n:Nat,(n<=n+3)=True)/\(∀n:Nat,(n=n+4)=False)/\(∀n:Nat,(n+4=n)=False)/\(∀n:Nat,(n+4<=n)=False)/\(∀n:Nat,(n<=n+4)=True)/\(∀n:Nat,(n<=n)=True):=by
 refine⟨fun _=>rfl,fun _ _=>rfl,fun x y l=> ?_,fun _=>rfl,?_,?_,?_,?_,?_,?_,?_,?_,?_,?_,?_,?_,?_,?_,?_,?_,?_,?_,?_,?_,?_,?_,?_,?_,?_,?_⟩
 ·simp only[List.contains_cons];congr 1
 all_goals intros;first |(simp;done)|(simp only[eq_iff_iff,iff_false,iff_true];omega)
theorem wrap_i64 {a}(h:a<9223372036854775808):Xe .i64 (.ofNat a)=.ofNat a:=qa h
theorem wrap_u64 (a):Xe .u64 (.ofNat a)=.ofNat (a%18446744073709551616):=rfl
theorem wrap_u32 (a):Xe .u32 (.ofNat a)=.ofNat (a%4294967296):=rfl
theorem PD {a b}(h:b<=a):(Int.ofNat a-Int.ofNat b)=Int.ofNat (a-b):=by simp only[Zz];omega
theorem Wi {a b}(h:b<=a)(c:a<9223372036854775808):Xe .i64 (.ofNat a-.ofNat b)=.ofNat (a-b):=by
 rw[PD h];exact qa (by omega)
theorem sub_neg {a b}(h:a<b):(Int.ofNat a-Int.ofNat b)=Int.negSucc (b-a-1):=by
 simp only[Zz,Int.negSucc_eq];omega
theorem No {a b}(h:b<=18446744073709551616):Xe .u64 (.ofNat a-.ofNat b)=.ofNat ((a+(18446744073709551616-b))%18446744073709551616):=by
 by_cases c:b<=a
 ·rw[PD c,wrap_u64];congr 1;omega
 ·rw[sub_neg (by omega)];show UU .u64 (WR .u64 (.negSucc (b-a-1)))=_;have :WR .u64 (.negSucc (b-a-1))=(a+(18446744073709551616-b))%18446744073709551616:=by
   simp only[WR,Ql];omega
  rw[this];rfl
theorem cu (a b):Nat.blt a b=decide (a<b):=by
 by_cases h:a<b
 ·rw[N6 h];simp[h]
 ·rw[JS (by omega)];simp[h]
theorem xP (a b):Nat.ble a b=decide (a<=b):=by
 by_cases h:a<=b
 ·rw[Py h];simp[h]
 ·rw[Gw (by omega)];simp[h]
theorem gn (a b):Nat.beq a b=decide (a=b):=by
 by_cases h:a=b
 ·rw[xQ h];simp[h]
 ·rw[JT h];simp[h]
theorem ay (a b):SR (.ofNat a) (.ofNat b)=decide (a<b):=cu a b
theorem C0 (a b):Oi (.ofNat a) (.ofNat b)=decide (a=b):=gn a b
theorem HH (a b):w9 (.ofNat a) (.ofNat b)=decide (a<=b):=by
 unfold w9;rw[ay];by_cases h:a<=b
 ·simp[h,Nat.not_lt.2 h]
 ·simp[h,Nat.lt_of_not_le h]
def pI:Nat->Int
 |0=>.negSucc 0
 |n+1=>.ofNat n
theorem UI {n}(h:n<9223372036854775808):Xe .i64 (.ofNat n-.ofNat 1)=pI n:=by
 cases n with
 |zero=>rfl
 |succ n=>exact Wi (by omega) h
theorem Xr:(∀a b,SR (.ofNat a) (.ofNat b)=decide (a<b))/\(∀a b,SR (.ofNat a) (.negSucc b)=false)/\(∀a b,SR (.negSucc a) (.ofNat b)=true)/\
  (∀a b,w9 (.ofNat a) (.ofNat b)=decide (a<=b))/\(∀a b,w9 (.ofNat a) (.negSucc b)=false)/\(∀a b,w9 (.negSucc a) (.ofNat b)=true)/\
  (∀a b,Oi (.ofNat a) (.ofNat b)=decide (a=b))/\(∀a b,Oi (.ofNat a) (.negSucc b)=false)/\(∀a b,Oi (.negSucc a) (.ofNat b)=false)/\(∀a b,Oi (.negSucc a) (.negSucc b)=decide (a=b))/\
  (∀a b,Nat.blt a b=decide (a<b))/\(∀a b,Nat.ble a b=decide (a<=b))/\(∀a b,Nat.beq a b=decide (a=b))/\
  (∀a b:Nat,(Int.ofNat a+Int.ofNat b)=Int.ofNat (a+b))/\(∀a b:Nat,(Int.ofNat a*Int.ofNat b)=Int.ofNat (a*b))/\
  (∀a,Xe .u64 (.ofNat a)=.ofNat (a%18446744073709551616))/\(∀a,Xe .u32 (.ofNat a)=.ofNat (a%4294967296))/\
  (∀a,QX .u64 (.ofNat a) (.ofNat 32)=some (.p (.int .u64 (.ofNat (a / 4294967296)))))/\(∀a,QX .u64 (.ofNat a) (.ofNat 63)=some (.p (.int .u64 (.ofNat (a / 9223372036854775808)))))/\
  (∀k a b,Tk k (.ofNat a) (.ofNat (b+1))=some (.p (.int k (Xe k (.ofNat (a / (b+1)))))))/\(∀k a b,T5 k (.ofNat a) (.ofNat (b+1))=some (.p (.int k (.ofNat (a%(b+1))))))/\
  (decide True=true)/\(decide False=false)/\((!decide True)=false)/\((!decide False)=true)/\((false=true)=False):=by
 refine⟨ay,fun _ _=>rfl,fun _ _=>rfl,HH,fun _ _=>rfl,fun _ _=>rfl,C0,fun _ _=>rfl,fun _ _=>rfl,fun a b=>gn a b,cu,xP,gn,fun _ _=>rfl,fun _ _=>rfl,fun _=>rfl,fun _=>rfl,fun _=>rfl,fun _=>rfl,fun _ _ _=>rfl,fun _ _ _=>rfl,rfl,rfl,rfl,rfl,by simp⟩
structure Xs where
 E0:Xa
 X:Nat->Option Vl
 le:∀K,Ni E0 (lift X K E0)
def Xs.E (B:Xs)(K n:Nat):Xa:=ev B.E0 B.X K n
def XS (B:Xs)(p:Xa->Nat->Prop):Prop:=∃N,∀K n,N<=K->N<=n->p (B.E K n) K
section
variable {B:Xs}{p q:Xa->Nat->Prop}
theorem XS.and (h:XS B p)(k:XS B q):XS B fun E K=>p E K/\q E K:=by
 obtain⟨N,b⟩:=h;obtain⟨M,a⟩:=k;exact⟨max N M,fun K n c d=>⟨b K n (by omega) (by omega),a K n (by omega) (by omega)⟩⟩
theorem XS.mono (h:XS B p)(k:∀E K,p E K->q E K):XS B q:=by
 obtain⟨N,c⟩:=h;exact⟨N,fun K n a b=>k _ _ (c K n a b)⟩
theorem XS.of (k:∀K n,p (B.E K n) K):XS B p:=⟨0,fun K n _ _=>k K n⟩
theorem XS.ge (m):XS B fun _ K=>m<=K:=⟨m,fun _ _ h _=>h⟩
theorem XS.all {p:Nat->Xa->Nat->Prop}:∀n,(∀i,i<n->XS B (p i))->XS B fun E K=>∀i,i<n->p i E K
 |0,_=>XS.of fun _ _ i h=>by omega
 |n+1,h=>by
  refine((XS.all n fun i c=>h i (by omega)).and (h n (by omega))).mono fun E K ⟨a,b⟩ i c=> ?_
  by_cases e:i=n
  ·subst e;exact b
  ·exact a i (by omega)
def Xu (B:Xs)(f:Nat)(a:List PV)(r:PV):Prop:=∃K n,(B.E K n).pure f a=some r
def Ut (B:Xs)(f:Nat)(a:X')(H:V')(d:DV)(H':V'):Prop:=∃K n,(B.E K n).heap f a H=some (d,H')
variable {f:Nat}{a:List PV}{r:PV}{H H':V'}{d:DV}{ad:X'}{xf:Vl}
theorem Xs.F5 {K a n m}(h:K<=a)(k:n<=m):Ni (B.E K n) (B.E a m):=JL B.E0 B.X B.le h k
theorem Xu.Xk (h:Xu B f a r):XS B fun E _=>E.pure f a=some r:=by
 obtain⟨K,n,h⟩:=h;exact⟨max K n,fun b m c d=>(B.F5 (by omega) (by omega)).pure f a r h⟩
theorem Ut.Xk (h:Ut B f ad H d H'):XS B fun E _=>E.heap f ad H=some (d,H'):=by
 obtain⟨K,n,h⟩:=h;exact⟨max K n,fun a m b c=>(B.F5 (by omega) (by omega)).heap f ad H _ h⟩
theorem Xu.of (c:B.X f=some xf)(h:XS B fun E K=>UX E K xf a=some r):Xu B f a r:=by
 obtain⟨N,b⟩:=h;refine⟨N,N+1,?_⟩;show(match B.X f with
  |some xf=>UX (B.E N N) N xf a
  |none=>(B.E N N).pure f a)=some r
 rw[c];exact b N N (Ze _) (Ze _)
theorem Ut.of (b:B.X f=some xf)(h:XS B fun E K=>VD E K xf ad H=some (d,H')):Ut B f ad H d H':=by
 obtain⟨N,a⟩:=h;refine⟨N,N+1,?_⟩;show(match B.X f with
  |some xf=>VD (B.E N N) N xf ad H
  |none=>(B.E N N).heap f ad H)=some (d,H')
 rw[b];exact a N N (Ze _) (Ze _)
theorem Ut.base (h:B.E0.heap f ad H=some (d,H')):Ut B f ad H d H':=⟨0,0,h⟩
theorem Xs.mode (K n):(B.E K n).mode=B.E0.mode:=by
 induction n with
 |zero=>rfl
 |succ n a=>exact a
theorem XS.mode:XS B fun E _=>E.mode=B.E0.mode:=XS.of fun K n=>Xs.mode K n
end
end Go.Ev
namespace Go.Ev
def dR (rs:List (Nat×Option (Bool×Nat)))(s:St):Option (DV×V'):=
 match Xv (WH s) rs with
 |some ds=>bif ds.all DV.plain then some (wN ds,s.H)else none
 |none=>none
theorem sj (E)(K b)(a:List (Nat×Option (Bool×Nat)))(c:XH)(args)(H:V'):VD E K ⟨b,a,c⟩ args H=(bif Nat.ble args.length b then(match XI E K 0 c ⟨UZ args 0,H⟩with |some (.normal,s)=>dR a s|some (.ret,s)=>dR a s|_=>none)else none):=by
 unfold VD Qu;rw[Nb];cases Nat.ble args.length b with
 |false=>rfl
 |true=>
  simp only[cond_true];rcases XI E K 0 c ⟨UZ args 0,H⟩with _|⟨_|_|_,s⟩
  ·rfl
  ·simp only[dR];cases Xv (WH s) a<;>rfl
  ·rfl
  ·simp only[dR];cases Xv (WH s) a<;>rfl
theorem Vx:(∀E K i (h:List (Nat×Option (Bool×Nat))) (c:XH) args (H:V'),VD E K ⟨i,h,c⟩ args H=(bif Nat.ble args.length i then(match XI E K 0 c ⟨UZ args 0,H⟩with |some (.normal,s)=>dR h s|some (.ret,s)=>dR h s|_=>none)else none))/\
  (∀(s:St),dR [] s=some (.X9 [],s.H))/\
  (∀(s:St) (x:Nat×Option (Bool×Nat)),dR [x] s=(match WH s x with |some d=>bif DV.plain d then some (d,s.H)else none|none=>none))/\
  (∀(s:St) (x y:Nat×Option (Bool×Nat)),dR [x,y] s=(match WH s x with |some d=>(match WH s y with |some e=>bif DV.plain d&&DV.plain e then some (.X9 [d,e],s.H)else none|none=>none)|none=>none))/\
  (∀l,DV.plain (.one l)=true)/\(∀l,DV.plain (.agg l)=true)/\
  (∀E (a:Option Nat) f (args:List Vs) (g:Option (Nat×Bool)) (j:P') b (s:St),Pq E ⟨a,.call f,args,g,j⟩ b s=Vq E a f b s)/\
  (∀E (a:Option Nat) f b (s:St),Vq E a f b s=(match E.mode f with
   | .heap=>(match E.heap f b s.H with
     |some (v,H)=>some (⟨OD s.T a v,H⟩,[],[])
     |none=>none)
   | .fresh=>(match TX E f b s.H with
     |some (v,H)=>some (⟨OD s.T a v,H⟩,[],[])
     |none=>none)
   |_=>none)):=by
 refine⟨sj,fun s=>rfl,fun s x=> ?_,fun s x y=> ?_,fun _=>rfl,fun _=>rfl,fun _ _ _ _ _ _ _ _=>rfl,fun E a f b s=> ?_⟩
 ·simp only[dR,Xv];cases WH s x<;>simp[wN]
 ·simp only[dR,Xv];cases WH s x<;>cases WH s y<;>simp[wN]
 ·unfold Vq;cases E.mode f with
  |pure=>rfl
  |view=>rfl
  |heap=>cases E.heap f b s.H with
   |none=>rfl
   |some p=>simp only[Tq]
  |fresh=>cases TX E f b s.H with
   |none=>rfl
   |some p=>simp only[Tq]
theorem kT:(∀(G L:V'),(G++L)[G.length]? =L[0]?)/\(∀(G L:V') k,(G++L)[G.length+k]? =L[k]?)/\(∀(G L:V') k,(G++L)[G.length+1+k]? =L[1+k]?)/\
  (∀(G L:V') (x:Xx),(G++L).set G.length x=G++L.set 0 x)/\(∀(G L:V') k (x:Xx),(G++L).set (G.length+k) x=G++L.set k x)/\
  (∀(x:Xx) (L:V'),(x::L)[0]? =some x)/\(∀(x:Xx) (L:V') k,(x::L)[k+1]? =L[k]?)/\(∀(x y:Xx) (L:V'),(x::L).set 0 y=y::L)/\(∀(x y:Xx) (L:V') k,(x::L).set (k+1) y=x::L.set k y)/\
  (∀(x y:Xx) (L:V'),(x::y::L)[1]? =some y)/\(∀(x y z:Xx) (L:V'),(x::y::z::L)[2]? =some z)/\(∀(x y z u:Xx) (L:V'),(x::y::z::u::L)[3]? =some u)/\
  (∀(x y w:Xx) (L:V'),(x::y::L).set 1 w=x::w::L)/\(∀(x y z w:Xx) (L:V'),(x::y::z::L).set 2 w=x::y::w::L)/\(∀(x y z u w:Xx) (L:V'),(x::y::z::u::L).set 3 w=x::y::z::w::L):=by
 refine⟨fun G L=> ?_,fun G L k=> ?_,fun G L k=> ?_,fun G L x=> ?_,fun G L k x=> ?_,fun _ _=>rfl,fun _ _ _=>rfl,fun _ _ _=>rfl,fun _ _ _ _=>rfl,fun _ _ _=>rfl,fun _ _ _ _=>rfl,fun _ _ _ _ _=>rfl,fun _ _ _ _=>rfl,fun _ _ _ _ _=>rfl,fun _ _ _ _ _ _=>rfl⟩
 ·rw[ZJ (Ze _),YH]
 ·rw[ZJ (Nat.le_add_right ..),Nat.add_sub_cancel_left]
 ·rw[ZJ (by omega)];congr 1;omega
 ·rw[List.set_append_right _ _ (Ze _),YH]
 ·rw[List.set_append_right _ _ (Nat.le_add_right ..),Nat.add_sub_cancel_left]
theorem SH:∃a:Xa->Nat->Nat->XH->St->Option (Ex×St),∃d:Xa->Nat->Nat->P'->XH->Nat->St->Option (Ex×St),∃j:Xa->Nat->Nat->F'->St->Option (St×List QA),∃m:Xa->Nat->F'->St->Option St,∃l:Xa->Nat->Bool->Xy->St->Option (St×P'×P'),∃h:Xa->Nat->F'->F'->St->Option St,∃g:Xa->Nat->F'->St->Option St,
  a=XI/\d=Xb/\j=Tg/\m=UY/\l=Vp/\h=P3/\g=TB/\(∀E K b k (e:P') (c:XH) (s:St),d E K b e c (k+1) s=(match a E K b c s with |some (.normal,s)=>d E K b e c k ⟨V3 s.T e,s.H⟩|r=>r))/\K4 a d j m l h g/\∀E K i (f:List (Nat×Option (Bool×Nat))) (c:XH) args (H:V'),VD E K ⟨i,f,c⟩ args H=(bif Nat.ble args.length i then(match a E K 0 c ⟨UZ args 0,H⟩with |some (.normal,s)=>dR f s|some (.ret,s)=>dR f s|_=>none)else none):=by
 refine⟨XI,Xb,Tg,UY,Vp,P3,TB,rfl,rfl,rfl,rfl,rfl,rfl,rfl,?_,Lh,?_⟩<;>intros<;>first |rfl|exact sj ..
end Go.Ev
