/- A range over a map: every order of the entries is looked at. -/
import Derived.Test.YtidginchkjhobaaGreatNum
import Derived.Maps.RangeRun
namespace Go.Ev
open Go.RowKit
structure RM where
 m:Nat
 m2:Nat
 it:Nat
 nx:Nat
 ok:Nat
 en:Nat
 b:Nat
 b2:Nat
 VY:Nat
 tail:O'
 rb:XN
 DI:XN
 DH:XN
 post:XN
 ntmps:Nat
 results:List (Nat×Option (Bool×Nat))
def Px {α:Type}:List α->List (α×List α)
 |[]=>[]
 |x::xs=>(x,xs)::(Px xs).map fun p=>(p.1,x::p.2)
def wW (it iid:Nat)(s:St):Bool:=
 (match Xi s.T it with
  |some (.one (.ptr i 0 0 0))=>Nat.beq i iid
  |_=>false)&&
 match s.H[iid]? with
  |some b=>Nat.beq b.XW 0&&Nat.beq b.sz 0
  |none=>false
def SH (E:Xa)(K:Nat)(rm:RM)(iid:Nat)(s:St)(c:Y'):Option St:=
 match U8 E 0 rm.tail ⟨(rm.en,.Wd [.agg (c.take rm.VY),.agg (c.drop rm.VY)])::(rm.ok,.one (.p (.bool true)))::(rm.nx,.Wd [.one (.p (.bool true)),.agg (c.take rm.VY),.agg (c.drop rm.VY)])::s.T,s.H⟩with
 |some s1=>
  match XP E K 0 rm.rb s1 with
  |some (.normal,s2)=>bif wW rm.it iid s2 then some s2 else none
  |_=>none
 |none=>none
def Ow (E:Xa)(K:Nat)(rm:RM)(iid:Nat):Nat->K'->St->Option (List St)
 |_,[],s=>some [s]
 |0,_::_,_=>none
 |k+1,c::cs,s=>
  match Xw (fun p=>match SH E K rm iid s p.1 with
   |some s'=>Ow E K rm iid k p.2 s'
   |none=>none) (Px (c::cs))with
  |some ls=>some ls.flatten
  |none=>none
theorem nJ {a:Type}:∀(l:List a) (i:Nat) (x:a),l[i]? =some x->(x,l.eraseIdx i)∈Px l
 |[],i,x,h=>by simp at h
 |y::l,0,x,h=>by grind [Px]
 |y::l,i+1,x,h=>by
  simp only[Px,Zk,ZM];exact .inr ⟨(x,l.eraseIdx i),nJ l i x (by simpa using h),by simp⟩
section
variable {P:Program}{O:BS}
theorem Sa {F}(f:Uw F){n}{w w'}{d}{Q:Exit->Act->World->Prop}{a}{o}{rest}(i:o.guard=none)(e:∀c,o.op≠.defer c)(v)(b:(execOp a.eval o).run P w=.ok (.value v) w')
  (h:wpListIn F n P d Q rest (a.put o.dst v) w'):wpListIn F n P d Q (o::rest) a w:=by
 refine wpListIn_plain i fun K g=>cA f e ?_
 unfold Oper.wp;rw[b];exact g _ _ h
structure FQ (P:Program)(nt:Nat)(rm:RM)(o2a o2b o3a o3b o4:Oper)(tl:List Oper)(rb:Code):Prop where
 a2:o2a.dst=some rm.m2/\o2a.op=.move (.tmp rm.m)/\o2a.guard=none
 b2:∃mt,o2b.dst=some rm.it/\o2b.op=.range mt (.tmp rm.m2)/\o2b.guard=none/\∃kt e,P.underlying mt=some (.map kt e)
 a3:o3a.dst=some rm.nx/\o3a.op=.next (.tmp rm.it) false/\o3a.guard=none
 b3:o3b.dst=some rm.ok/\o3b.op=.extract (.tmp rm.nx) 0/\o3b.guard=none
 a4:o4.dst=some rm.en/\o4.op=.entry (.tmp rm.it)/\o4.guard=none
 tail:Xw (Tv P nt (o4::tl)) tl=some rm.tail
 body:XS P nt rb=some rm.rb.erase
 lt:rm.m2<nt/\rm.it<nt/\rm.nx<nt/\rm.ok<nt/\rm.en<nt
 ne:rm.nx≠rm.it/\rm.ok≠rm.it/\rm.m2≠rm.it
def wa (rm:RM)(i3 i4:Nat)(o3a o3b o4:Oper)(tl:List Oper)(rb:Code):Code:=
 (Code.region i3 #[o3a,o3b] false).seq ((Code.cond (.tmp rm.ok) .skip (.exit rm.b)).seq (Code.block rm.b2 ((Code.region i4 (o4::tl).toArray false).seq rb)))
def UT (ps:List (MapEntry×Y'))(g:Nat->Bool):List (MapEntry×Y'):=ps.filter fun p=> !g p.1.born
theorem wR (g h:Nat->Bool):∀(d:List (MapEntry×Y')) e c,(∀y,h y=(g y||y==e.born))->d.Pairwise (fun a b=>a.1.born≠b.1.born)->(e,c)∈d->g e.born=false->
  ∃i,(UT d g)[i]? =some (e,c)/\UT d h=(UT d g).eraseIdx i:=by
 intro d;induction d with
 |nil=>grind
 |cons p d t=>
  intro e c f r j n;obtain⟨l,m⟩:=Zu.1 r;rcases Zk.1 j with rfl|j
  ·refine⟨0,by simp[UT,n],?_⟩;have o:UT ((e,c)::d) g=(e,c)::UT d g:=by simp[UT,n]
   have q:UT ((e,c)::d) h=UT d h:=by
    grind [UT]
   rw[o,q,List.eraseIdx_cons_zero];unfold UT
   grind [List.filter_congr]
  ·obtain⟨i,o,q⟩:=t e c f m j n;have k:p.1.born≠e.born:=l (e,c) j;have s:(p.1.born==e.born)=false:=by simpa using k
   cases u:g p.1.born with
   |true=>
    grind [UT]
   |false=>
    refine⟨i+1,?_,?_⟩
    ·grind [UT]
    grind [UT]
theorem lj (seen:Array Nat)(x y):(seen.push x).contains y=(seen.contains y||y==x):=by grind
structure Kp (nt lo:Nat)(rm:RM)(iid:Nat)(O:BS)(w0:World)(μ0':Nat->Nat)(hh:HF)(es:Array MapEntry)(clk bm r:Nat)(RV:Xx)(seen:Array Nat)(s:St)(W:World)(μ:Nat->Nat)(a:Act):Prop where
 inv:X1 W O μ (Xj s.H)
 ni:WM lo nt O W μ (Xj s.H) a s.T
 mono:WL O w0 μ0' hh W μ (Xj s.H)
 map:W.heap[bm]? =some (.map es clk)
 iter:W.heap[r]? =some (.mapIter (some bm) clk seen clk)
 it:wW rm.it iid s=true
 mu:μ iid=r
 YS:¬Live O μ (Xj s.H) r
 YT:¬Live O μ (Xj s.H) bm
 low:w0.heap.size<=r
 LO:XE (OI W O μ (Xj s.H) RV) es.toList RV.ch
theorem nU {e a}{s}(h:wW e a s=true):Xi s.T e=some (.one (.ptr a 0 0 0))/\∃b,Xj s.H a=some b/\b.XW=0/\b.sz=0:=by
 unfold wW at h;rw[Zs]at h;obtain⟨d,c⟩:=h;split at d
 ·rename_i i g;have:=Zl d;subst this;refine⟨g,?_⟩;split at c
  ·rename_i b f;rw[Zs]at c;exact⟨b,f,Zl c.1,Zl c.2⟩
  ·simp at c
 ·simp at d
theorem OI.mono {w f}{g a}{h d}{b}{e}{c}(m:WL O w g h f a d)(x:OI w O g h b e c):OI f O a d b e c:=by
 obtain⟨n,o,i,j,k,l⟩:=x;exact⟨n,o,i,j,k,l.imp fun _ _=>XH.mono m⟩
theorem OI.same {w a}{d}{h}{b}{e}{c}(m:Tx w a)(x:OI w O d h b e c):OI a O d h b e c:=by
 obtain⟨k,l,f,g,i,j⟩:=x;exact⟨k,l,f,g,i,j.imp fun _ _=>XH.same m⟩
theorem av (m)(a)(b:Array Nat)(c):mO (.mapIter m a b c):=⟨(fun _ _ _ h=>by cases h),(fun _ _ h=>by cases h)⟩
theorem nR (g:Nat->Bool):∀(l:List MapEntry) ch,l.length=ch.length->(UT (l.zip ch) g).map (·.1)=l.filter fun e=> !g e.born
 |[],[],_=>rfl
 |[],_::_,h=>by simp at h
 |_::_,[],h=>by simp at h
 |e::l,c::ch,h=>by
  have a:=nR g l ch (by simpa using h)
  grind [UT,List.zip_cons_cons]
theorem aL {a b:Type}(f:a->b):∀(l:List a) (i:Nat),(l.eraseIdx i).map f=(l.map f).eraseIdx i
 |[],_=>by simp
 |_::_,0=>by simp
 |x::l,i+1=>by simp[aL f l i]
theorem cw {R:MapEntry->MapEntry->Prop}:∀(l:List MapEntry) (ch:K'),l.Pairwise R->(l.zip ch).Pairwise fun a b=>R a.1 b.1
 |[],_,_=>by simp
 |_::_,[],_=>by simp
 |e::l,c::ch,h=>by
  obtain⟨d,f⟩:=Zu.1 h;rw[List.zip_cons_cons];exact Zu.2 ⟨fun p g=>d p.1 (List.of_mem_zip g).1,cw l ch f⟩
theorem Dm {w}{a}{h}{b c d}{e f g}(i:Ua w O a h b e)(j:Ua w O a h c f)(k:Ua w O a h d g):XF w O a h (.tuple #[b,c,d]) (.Wd [e,f,g]):=⟨[b,c,d],rfl,.cons i (.cons j (.cons k .nil))⟩
theorem O0 (a:Act)(t:Nat)(v:Value)(b:t<a.tmps.size):(a.put (some t) v).eval (.tmp t)=v:=tf a t v b
theorem sL (E:Xa)(hE:WI P E)(hD:NL P E)(K:Nat){nt lo:Nat}(d:RM){d6 d7 a2 c1 o4:Oper}{tl:List Oper}{rb:Code}(k:FQ P nt d d6 d7 a2 c1 o4 tl rb)(i3 i4 z:Nat)
  {w0:World} {u:Nat->Nat} {hh:HF} (c2:X1 w0 O u hh) (n:Array MapEntry) (i A r:Nat) (j:Xx) (f2:j.sz=d.VY) (d5:Nat.beq j.ty 1=true) (v:vz n.toList i) (Q:Exit->Act->World->Prop) (N:Act->World->Prop)
  (seen:Array Nat) (s:St) (W:World) (m:Nat->Nat) (a:Act) (l:Kp nt lo d z O w0 u hh n i A r j seen s W m a)
  (X:UT (n.toList.zip j.ch) seen.contains=[]->∀a,WM lo nt O W m (Xj s.H) a ((d.ok,.one (.p (.bool false)))::(d.nx,.Wd [.one (.p (.bool false))])::s.T)->Q (.exit d.b) a W)
  (Z:∀e c,(e,c)∈n.toList.zip j.ch->seen.contains e.born=false->∃s',SH E K d z s c=some s'/\∀W' d8 a',Kp nt lo d z O w0 u hh n i A r j (seen.push e.born) s' W' d8 a'->N a' W'):
  (wa d i3 i4 a2 c1 o4 tl rb).wpIn Fence.wide 0 P (Exit.then N Q) a W:=by
 have M:Uw Fence.wide:=.inl rfl;obtain⟨c9,ib,b0,b2,c8⟩:=nU l.it;have e1:=l.ni.sz;have a0:a.eval (.tmp d.it)=.pointer (some ⟨r,0,none⟩):=by
  obtain⟨b,g,o,e,hb,_,hs⟩:=(l.ni.slot d.it _ c9).Ou;rw[b0]at hb;cases hb;obtain⟨h1,h2⟩:=hs b2.symm;have :a.eval (.tmp d.it)=a.tmps.getD d.it undef:=rfl;rw[this,e,h1,h2,l.mu,c8]
 obtain⟨e9,e3,f0,f1,e7⟩:=k.lt;have b6:n.toList.length=j.ch.length:=l.LO.length;refine wpIn_seq (wpIn_region_list ?_);rcases run_next_at (P:=P) W a2.type r A i i seen n i l.iter l.map v.2 (Zf _)with⟨h0,t⟩|⟨e,he,w1,c0,t⟩
 ·refine Sa M k.a3.2.2 (by rw[k.a3.2.1];intro c h;cases h) _ (w':=W) (by simp only[execOp,k.a3.2.1];exact Ur (by rw[a0];exact t)) ?_;rw[k.a3.1];refine Sa M k.b3.2.2 (by rw[k.b3.2.1];intro c h;cases h) (.bool false) (w':=W) (by simp only[execOp,k.b3.2.1];simp_all [O0,Instr.extract]) ?_;rw[k.b3.1];refine wpIn_seq (wpIn_cond_false (O0 _ _ _ (by grind [put_defers])) (wpIn_exit ?_));have D:=(l.ni.put (some d.nx) (by simp[OH];omega) (.tuple #[.bool false]) (.Wd [.one (.p (.bool false))]) ⟨[.bool false],rfl,.cons (XH.p _ _ (.bool _)) .nil⟩).put (some d.ok) (by simp[OH];omega) (.bool false) (.one (.p (.bool false))) (XH.p _ _ (.bool _));refine X ?_ _ D;have :(UT (n.toList.zip j.ch) seen.contains).map (·.1)=[]:=by
   rw[nR _ _ _ b6];have :(leftOf n seen).toList=[]:=by simpa using h0
   grind [leftOf]
  simpa using this
 ·have a6:e∈n.toList/\seen.contains e.born=false:=by
   grind [leftOf]
  obtain⟨q,hq⟩:=Zv.1 a6.1;obtain⟨c,hc⟩:∃c,j.ch[q]? =some c:=⟨_,Zd (by grind)⟩;have b7:(e,c)∈n.toList.zip j.ch:=Zv.2 ⟨q,by grind⟩;obtain⟨s',f,hN⟩:=Z e c b7 a6.2;have C:WL O W m (Xj s.H) w1 m (Xj s.H)/\X1 w1 O m (Xj s.H):=by
   rcases c0 with rfl|rfl
   ·exact⟨WL.refl _ _ _ _,l.inv⟩
   ·exact Tr l.inv (Zf _) (fun _ _=>rfl) rfl rfl rfl
  have a9:w1.heap=W.heap:=by rcases c0 with rfl|rfl<;>rfl
  have b8:w1.heap[r]? =some (.mapIter (some A) i seen i):=by rw[a9];exact l.iter
  have e5:r<w1.heap.size:=(Yd.1 b8).1;have d2:A≠r:=fun e=>by have:=l.map;grind
  generalize B:w1.putObj r (.mapIter (some A) i (seen.push e.born) i)=W2;have b9:ChangeMaps.setBlock w1 r (.mapIter (some A) i (seen.push e.born) i)=W2:=B;rw[b9]at t;have sd:Tx w1 W2:=by grind [Ti,av]
  have c3:X1 W2 O m (Xj s.H):=C.2.same sd;have c5:WM lo nt O W2 m (Xj s.H) a s.T:=by rw[<-B];exact(l.ni.mono C.1).same b8 (av _ _ _ _) (fun _ h=>by cases h) (av _ _ _ _)
  have c4:WL O w0 u hh W2 m (Xj s.H):=by rw[<-B];exact Sn c2 (l.mono.trans C.1) l.low _
  have G:W2.heap[r]? =some (.mapIter (some A) i (seen.push e.born) i):=by grind [World.putObj_heap_same]
  have J:W2.heap[A]? =some (.map n i):=by rw[<-B,World.putObj_heap_other d2,a9];exact l.map
  have w:XE (OI W2 O m (Xj s.H) j) n.toList j.ch:=l.LO.imp fun x y a1=>(a1.mono C.1).same sd
  obtain⟨e2,a7,kv,xv,d0,V,e8,b5⟩:=w.get q c hc;rw[hq]at a7;cases a7;rw[d5]at V;simp only[aQ,if_true]at V;have Sp:XE (XH W2 O m (Xj s.H)) kv (c.take d.VY):=by
   have:=b5.take d.VY
   grind
  have U:XE (XH W2 O m (Xj s.H)) xv (c.drop d.VY):=by
   have:=b5.drop d.VY
   grind
  have I:Ua W2 O m (Xj s.H) e.key (.agg (c.take d.VY)):=⟨kv,d0,Sp⟩;have L:Ua W2 O m (Xj s.H) e.val (.agg (c.drop d.VY)):=⟨xv,V,U⟩;have a5:Ua W2 O m (Xj s.H) (.bool true) (.one (.p (.bool true))):=XH.p _ _ (.bool _);refine Sa M k.a3.2.2 (by rw[k.a3.2.1];intro c h;cases h) _ (w':=W2) (by simp only[execOp,k.a3.2.1];exact Ur (by rw[a0];exact t)) ?_;rw[k.a3.1];refine Sa M k.b3.2.2 (by rw[k.b3.2.1];intro c h;cases h) (.bool true) (w':=W2) (by simp only[execOp,k.b3.2.1];simp_all [O0,Instr.extract]) ?_;rw[k.b3.1];have d3:=(c5.put (some d.nx) (by simp[OH];omega) (.tuple #[.bool true,e.key,e.val]) (.Wd [.one (.p (.bool true)),.agg (c.take d.VY),.agg (c.drop d.VY)]) (Dm a5 I L)).put (some d.ok) (by simp[OH];omega) (.bool true) (.one (.p (.bool true))) a5;refine wpIn_seq (wpIn_cond_true (O0 _ _ _ (by grind [put_defers])) (wpIn_skip ?_));refine wpIn_block (wpIn_seq (wpIn_region_list ?_));have e6:(((a.put (some d.nx) (.tuple #[.bool true,e.key,e.val])).put (some d.ok) (.bool true)).eval (.tmp d.it))=.pointer (some ⟨r,0,none⟩):=by
   show(((a.put (some d.nx) (.tuple #[.bool true,e.key,e.val])).put (some d.ok) (.bool true)).tmps.getD d.it undef)=_;rw[NZ _ _ _ _ (fun h=>k.ne.2.1 (by simpa using h)),NZ _ _ _ _ (fun h=>k.ne.1 (by simpa using h))];exact a0
  have e4:(n.toList.map (·.born)).Nodup:=List.pairwise_map.2 v.1;show wpListIn Fence.wide 0 P (o4::tl).toArray _ (o4::tl) _ W2;refine Sa M k.a4.2.2 (by rw[k.a4.2.1];intro c h;cases h) (.tuple #[e.key,e.val]) (w':=W2) (by simp only[execOp,k.a4.2.1];grind [Ur,run_entry_at]) ?_;rw[k.a4.1];have d4:=d3.put (some d.en) (by simp[OH];omega) (.tuple #[e.key,e.val]) (.Wd [.agg (c.take d.VY),.agg (c.drop d.VY)]) (sU I L);unfold SH at f;split at f
  ·rename_i s1 c7;split at f
   ·rename_i s2 a8;obtain⟨F,c6⟩:=X4 f;subst c6;refine kP (O:=O) E hE M 0 0 (nt:=nt) (o4::tl) tl d.tail k.tail _ s1 _ W2 m c7 c3 d4 fun a3 w3 d9 g1 g2 g3=> ?_
    refine PI E hE hD K 0 nt d.rb O Fence.wide 0 lo M (.inl rfl) rb k.body s1 .normal s2 a8 a3 w3 d9 g1 g2 _ fun a4 w4 e0 k1 k2 k3=> ?_
    have R:=g3.trans k3;obtain⟨_,f3,b1,b4,_⟩:=nU F;have d1:e0 z=r:=by
     obtain⟨b',h1,_,_,h4⟩:=R.ids z ib b0;rw[b1]at h1;cases h1;rw[(h4 (by rw[b2,b4])).1];exact l.mu
    have Y:r<W2.heap.size:=(Yd.1 G).1;have S:A<W2.heap.size:=(Yd.1 J).1;exact hN _ _ _ ⟨k1,k2,c4.trans R,(R.keeps.VS _ S l.YT).trans J,(R.keeps.VS _ Y l.YS).trans G,F,d1,fun hl=>(R.keeps.live _ hl).elim l.YS (by omega),fun hl=>(R.keeps.live _ hl).elim l.YT (by omega),l.low,w.imp fun x y a1=>a1.mono R⟩
   ·simp at f
  ·simp at f
theorem GK (E:Xa)(hE:WI P E)(hD:NL P E)(K:Nat){nt lo:Nat}(m:RM){a0 a1 G I o4:Oper}{tl:List Oper}{rb:Code}(ho:FQ P nt m a0 a1 G I o4 tl rb)(Z i4 q:Nat)
  {w0:World} {g:Nat->Nat} {U:HF} (z:X1 w0 O g U) (h:Array MapEntry) (o S r:Nat) (d:Xx) (D:d.sz=m.VY) (F:Nat.beq d.ty 1=true) (f:vz h.toList o) (Q:Exit->Act->World->Prop) (ss:List St)
  (hQ:∀s∈ss,∀a W n,X1 W O n (Xj s.H)->WM lo nt O W n (Xj s.H) a ((m.ok,.one (.p (.bool false)))::(m.nx,.Wd [.one (.p (.bool false))])::s.T)->WL O w0 g U W n (Xj s.H)->Q (.exit m.b) a W):
  ∀(k:Nat) (seen:Array Nat) (s:St) (W:World) (n:Nat->Nat) (a:Act) (L:List St),Kp nt lo m q O w0 g U h o S r d seen s W n a->(UT (h.toList.zip d.ch) seen.contains).length=k->Ow E K m q k ((UT (h.toList.zip d.ch) seen.contains).map (·.2)) s=some L->(∀x∈L,x∈ss)->
   Code.roundsIn Fence.wide 0 P (wa m Z i4 G I o4 tl rb) Q (k+1) a W:=by
 intro k;induction k with
 |zero=>
  intro seen s W n a L J hk l v;have t:UT (h.toList.zip d.ch) seen.contains=[]:=YC hk;refine sL E hE hD K m ho Z i4 q z h o S r d D F f Q _ seen s W n a J (fun _ R M=> ?_) fun e c X M=> ?_
  ·rw[t]at l;simp only[ZF,Ow,Zb]at l;exact hQ s (v s (by rw[<-l];simp)) R W n J.inv M J.mono
  ·exfalso;have :(e,c)∈UT (h.toList.zip d.ch) seen.contains:=Yh.2 ⟨X,by grind⟩
   grind
 |succ k ih=>
  intro seen s W n a L J hk l v;refine sL E hE hD K m ho Z i4 q z h o S r d D F f Q _ seen s W n a J (fun t=> ?_) fun e c X M=> ?_
  ·grind
  ·obtain⟨i,h1,h2⟩:=wR seen.contains (seen.push e.born).contains (h.toList.zip d.ch) e c (fun y=>lj seen e.born y) (cw _ _ f.1) X M;cases hl:(UT (h.toList.zip d.ch) seen.contains).map (·.2)with
   |nil=>simp_all
   |cons c0 w=>
   rw[hl]at l;simp only[Ow]at l;split at l
   ·rename_i N V;simp only[Zb]at l;subst l;have Y:(c,(c0::w).eraseIdx i)∈Px (c0::w):=nJ _ _ _ (by grind);obtain⟨j,hj⟩:=Zv.1 Y;obtain⟨a4,A⟩:=TS V;have B:j<N.length:=by grind
    obtain⟨p,C,u⟩:=A j N[j] (Zd B);rw[hj]at C;cases C;simp only at u;split at u
    ·rename_i s' hr;refine⟨s',hr,fun W' a3 R a2=>ih (seen.push e.born) s' W' a3 R N[j] a2 ?_ ?_ fun x hx=>v x (List.mem_flatten.2 ⟨N[j],Ya B,hx⟩)⟩
     ·grind
     grind [aL]
    ·simp at u
   ·simp at l
end
def kS {α:Type}(f:α->α->Bool):List α->List α->Bool
 |[],[]=>true
 |x::xs,y::ys=>f x y&&kS f xs ys
 |_,_=>false
theorem ig {c:Type}{f:c->c->Bool}(d:∀x y,f x y=true->x=y):∀a b,kS f a b=true->a=b
 |[],[],_=>rfl
 |[],_::_,h=>by simp[kS]at h
 |_::_,[],h=>by simp[kS]at h
 |x::xs,y::ys,h=>by
  simp only[kS,Zs]at h;rw[d x y h.1,ig d xs ys h.2]
def v7 (E:Xa)(K:Nat)(rm:RM)(s:St):Option PV:=
 match XP E K 0 rm.post ⟨(rm.ok,.one (.p (.bool false)))::(rm.nx,.Wd [.one (.p (.bool false))])::s.T,s.H⟩with
 |some (.normal,s1)|some (.ret,s1)=>
  match Xw (WV s1) rm.results with
  |some rs=>match Xw (XX (Xj s1.H)) rs with
   |some ps=>some (fT ps)
   |none=>none
  |none=>none
 |_=>none
def VT (b:Xx):Xx:={b with fz:=true}
structure FR (P:Program)(f:Nat)(rm:RM):Prop where
 ok:∃fn R0 R1 C i2 i3 i4 o2a o2b o3a o3b o4 tl rb,P.funcs[f]? =some fn/\
  fn.body = some (Code.seq R0 (Code.seq R1 (Code.seq (Code.seq (Code.region i2 #[o2a, o2b] false) (Code.block rm.b (Code.loop (wa rm i3 i4 o3a o3b o4 tl rb)))) C))) /\ (fn.name == "runtime.NumGoroutine") = false /\ fn.ntmps = rm.ntmps /\
  XS P fn.ntmps R0=some rm.DI.erase/\XS P fn.ntmps R1=some rm.DH.erase/\XS P fn.ntmps C=some rm.post.erase/\Xw (Qb P) fn.results.toList=some rm.results/\FQ P fn.ntmps rm o2a o2b o3a o3b o4 tl rb
theorem vr (H):Xj (H.map VT)=Cl (Xj H) (List.range H.length):=by grind [Xj,Cl,VT]
theorem AF {P:Program}(E:Xa)(hE:WI P E)(hD:NL P E)(K:Nat){f:Nat}{a:RM}(hf:FR P f a)(args:X')(H:V')(r:PV){s1 d:St}{id:Nat}{b:Xx}{ss:List St}(d7:args.length<=a.ntmps)
  (b7:XP E K 0 a.DI ⟨U9 args 0,H.map VT⟩=some (.normal,s1)) (b8:XP E K 0 a.DH s1=some (.normal,d)) (c1:Xi d.T a.m=some (.one (.mp id))) (hb:d.H[id]? =some b) (c2:b.mp=true) (f9:b.fz=true) (e7:Nat.beq b.ty 1=true) (e6:b.sz=a.VY)
  (f4:Ow E K a d.H.length b.ch.length b.ch ⟨(a.it,.one (.ptr d.H.length 0 0 0))::(a.m2,.one (.mp id))::d.T,d.H++[⟨true,0,0,[],true,2⟩]⟩=some ss) (a4:∀s∈ss,v7 E K a s=some r):CH P f args H (inj r) (H.map VT)/\rH P f:=by
 obtain⟨I,R0,R1,C,i2,i3,i4,g5,g6,g7,g8,o4,tl,rb,b9,F,X,e2,d2,d3,d4,c7,Z⟩:=hf.ok;refine⟨fun w O μ vs hI R=> ?_,fp b9 X F⟩;have c8:Nat.beq b.ty 2=false:=by grind [Zl]
 have hF:Uw Fence.wide:=.inl rfl;obtain⟨fm,fi⟩:=eY (w':=w) hI (List.range H.length) (Zf _) (fun _ _=>rfl) rfl rfl rfl;rw[<-vr]at fm fi;have A:∀q,Live O μ (Xj (H.map VT)) q->O q:=by
  rintro q (L|⟨i,J,h1,h2,_⟩)
  ·exact L
  grind [Xj,VT]
 have e5:WM w.heap.size I.ntmps O w μ (Xj (H.map VT)) {tmps:=vs.toArray++Array.replicate (I.ntmps-vs.toArray.size) undef,defers:=[]} (U9 args 0):=
  fK (Zf _) (by rw[e2];exact d7) (R.imp fun v x hx=>hx.mono fm)
 refine(callsIn_wide (n:=0)).1 (callsIn_of_wp_marks b9 F trivial ?_);refine wpIn_seq (PI E hE hD K 0 I.ntmps a.DI O Fence.wide 0 w.heap.size hF (.inl rfl) R0 d2 ⟨U9 args 0,H.map VT⟩ .normal s1 b7 _ w μ fi e5 _ fun a1 w1 f1 g1 g2 g3=> ?_);refine wpIn_seq (PI E hE hD K 0 I.ntmps a.DH O Fence.wide 0 w.heap.size hF (.inl rfl) R1 d3 s1 .normal d b8 a1 w1 f1 g1 g2 _ fun a2 B g k1 k2 k3=> ?_);refine wpIn_seq (wpIn_seq (wpIn_region_list ?_));have b1:=g3.trans k3;have S:Xj d.H id=some b:=hb;obtain⟨es,j,d1,⟨_,U⟩,M⟩:=(k1.RV id b S).map c2 c8;have e8:a2.eval (.tmp a.m)=.map (some (g id)):=by
  have c9:XH B O g (Xj d.H) (a2.tmps.getD a.m undef) (.mp id):=k2.slot a.m _ c1;show a2.tmps.getD a.m undef=_;generalize a2.tmps.getD a.m undef=v at c9;cases c9 with
  |mp _ _ _ _=>rfl
 obtain⟨g0,f5,g4,a0,f8⟩:=Z.lt;obtain⟨mt,b3,b4,b5,kt,et,e1⟩:=Z.b2;refine Sa hF Z.a2.2.2 (by rw[Z.a2.2.1];intro c h;cases h) (.map (some (g id))) (w':=B) (by simp only[execOp,Z.a2.2.1,e8];rfl) ?_;rw[Z.a2.1];have e3:=k2.put (some a.m2) (by simp[OH];omega) (.map (some (g id))) (.one (.mp id)) (XH.mp id b S c2);have f7:=k2.sz;refine Sa hF b5 (by grind) (.pointer (some ⟨B.heap.size,0,none⟩)) (w':=B.alloc (.mapIter (some (g id)) j #[] j)) (by
  simp only[execOp,b4];refine Ur ?_;rw[O0 _ _ _ (by omega)];simp[Instr.range,P9 e1,MapKept.run_getObj_map d1,newObj,go_sem,Result.andThen];rfl) ?_
 rw[b3];have Y:Xj d.H d.H.length=none:=by simp[Xj]
 obtain⟨am,N⟩:=QZ (w':=B.alloc (.mapIter (some (g id)) j #[] j)) (n:=d.H.length) k1 Y ⟨true,0,0,[],true,2⟩ (by simp) (fun k hk=>RowKit.Below.heap_alloc _ _ _ hk) rfl rfl rfl;have b0:(fun x=>if x=d.H.length then some (⟨true,0,0,[],true,2⟩:Xx)else Xj d.H x)=Xj (d.H++[⟨true,0,0,[],true,2⟩]):=by
  rw[iA];rfl
 have c3:(B.alloc (.mapIter (some (g id)) j #[] j)).heap[B.heap.size]? =some (.mapIter (some (g id)) j #[] j):=Go.heap_alloc_new B _;have N:=N (by
  unfold Wx;simp only[if_true];rw[if_pos (show Nat.beq 2 2=true from rfl)]
  grind [av])
 rw[b0]at am N;generalize d0:(fun i=>if i=d.H.length then B.heap.size else g i)=μ3 at am N;have d6:id<d.H.length:=(Zg.1 hb).1;have t:μ3 d.H.length=B.heap.size:=by rw[<-d0];simp
 have e4:WM w.heap.size I.ntmps O (B.alloc (.mapIter (some (g id)) j #[] j)) μ3 (Xj (d.H++[⟨true,0,0,[],true,2⟩])) ((a2.put (some a.m2) (.map (some (g id)))).put (some a.it) (.pointer (some ⟨B.heap.size,0,none⟩))) ((a.it,.one (.ptr d.H.length 0 0 0))::(a.m2,.one (.mp id))::d.T):=by
  refine(e3.mono am).put (some a.it) (by simp[OH];omega) _ (.one (.ptr d.H.length 0 0 0)) (XH.ptr d.H.length 0 0 0 ⟨true,0,0,[],true,2⟩ _ _ (by simp[Xj]) (Zf _) fun _=>⟨t.symm,by simp⟩)
 have c5:¬Live O μ3 (Xj (d.H++[⟨true,0,0,[],true,2⟩])) B.heap.size:=by
  rintro (L|⟨i,J,h1,h2,h3⟩)
  ·have:=k1.lt _ L;omega
  ·by_cases e:i=d.H.length
   ·grind
   ·have:=N.inj i d.H.length J _ h1 (by simp[Xj];rfl) (by rw[h3,t]);exact e this
 have c4:¬Live O μ3 (Xj (d.H++[⟨true,0,0,[],true,2⟩])) (g id):=by
  have c0:Xj (d.H++[⟨true,0,0,[],true,2⟩]) id=some b:=by grind
  have a7:μ3 id=g id:=by grind
  rintro (L|⟨i,J,h1,h2,h3⟩)
  ·exact k1.Rl id b S L
  ·have:=N.inj i id J b h1 c0 (by rw[h3,a7])
   grind
 have Q:=b1.trans am;refine wpIn_block (wpIn_loop_rounds (b.ch.length+1) ?_);have d9:es.toList.length=b.ch.length:=M.length;have d8:UT (es.toList.zip b.ch) (#[]:Array Nat).contains=es.toList.zip b.ch:=by
  grind [UT,List.filter_eq_self]
 have f6:(es.toList.zip b.ch).map (·.2)=b.ch:=by
  grind [List.map_snd_zip]
 refine GK (lo:=w.heap.size) E hE hD K a Z i3 i4 d.H.length fi es j (g id) B.heap.size b e6 e7 U _ ss ?_ b.ch.length #[] ⟨(a.it,.one (.ptr d.H.length 0 0 0))::(a.m2,.one (.mp id))::d.T,d.H++[⟨true,0,0,[],true,2⟩]⟩ _ μ3 _ ss ⟨N,e4,Q,?_,c3,?_,t,c5,c4,b1.keeps.size,?_⟩ ?_ ?_ (fun x hx=>hx)
 ·
  intro s hs a3 W f2 h1 h2 h3;show(if a.b=a.b then _ else _);rw[if_pos rfl];have hp:=a4 s hs;unfold v7 at hp;have a9:∀(ex:Ex) (D:St),(ex=.normal\/ex=.ret)->XP E K 0 a.post ⟨(a.ok,.one (.p (.bool false)))::(a.nx,.Wd [.one (.p (.bool false))])::s.T,s.H⟩=some (ex,D)->
    (match Xw (WV D) a.results with
     |some rs=>match Xw (XX (Xj D.H)) rs with
      |some ps=>some (fT ps)
      |none=>none
     |none=>none)=some r->C.wpIn Fence.wide 0 P (bodyPostM Fence.wide 0 P I (fun e u=>∃v z,e=.returned v/\XF u O z (Xj (H.map VT)) v (inj r)/\X1 u O z (Xj (H.map VT))/\WL O w μ (Xj H) u z (Xj (H.map VT)))) a3 W:=by
   intro ex D d5 o G;cases V:Xw (WV D) a.results with
   |none=>simp[V]at G
   |some a8=>
   simp only[V]at G;cases a6:Xw (XX (Xj D.H)) a8 with
   |none=>simp[a6]at G
   |some f0=>
   simp only[a6,Zb]at G;refine PI E hE hD K 0 I.ntmps a.post O Fence.wide 0 w.heap.size hF (.inl rfl) C d4 _ ex D o a3 W f2 h1 h2 _ fun a5 w5 f3 m1 m2 m3=> ?_
   have e0:=Ot (P:=P) (O:=O) (μ:=f3) (nt:=I.ntmps) (s:=D) (fn:=I) fi a.results a8 c7 V (fun e u=>∃v z,e=.returned v/\XF u O z (Xj (H.map VT)) v (inj r)/\X1 u O z (Xj (H.map VT))/\WL O w μ (Xj H) u z (Xj (H.map VT))) a5.tmps
    (fun us u n1 n2 n3=>by
     have b6:∀k,k<w.heap.size->u.heap[k]? =w.heap[k]? :=fun k hk=>by
      by_cases a0:O k
      ·exact n3.aK k a0
      ·exact n3.keeps.VS k hk fun hl=>a0 (A k hl)
     obtain⟨gm,gi⟩:=Tr (w':=u) fi n3.keeps.size b6 n3.os n3.tape n3.output;refine⟨_,μ,rfl,?_,gi,fm.trans gm⟩;have c6:=tB n1 O (fun q L=>.inl L) (fun id b hb=>n1.Rl id b hb) us a8 f0 n2 a6;rw[G]at c6;refine eQ (fun v l hl=> ?_) c6;rw[T5]at hl;exact hl.u7 fun q L=>A q L)
    a5.defers w5 m1 m2 (h3.trans m3)
   rcases d5 with rfl|rfl<;>exact e0
  split at hp
  ·rename_i D o;exact a9 .normal D (.inl rfl) o hp
  ·rename_i D o;exact a9 .ret D (.inr rfl) o hp
  ·simp at hp
 ·grind [RowKit.Below.heap_alloc]
 ·simp[wW,U2]
 ·exact M.imp fun x y e9=>e9.mono am
 ·grind
 grind
def Mq (n:Nat):P'->Bool
 |[]=>false
 |x::xs=>bif Nat.beq n x then true else Mq n xs
def gL (fs:P')(X:Nat->Option Vu):Nat->Option Vu:=fun f=>bif Mq f fs then none else X f
theorem vH {P}{X:Nat->Option Vu}(b)(d:∀f a,X f=some a->PY P f a):∀f a,gL b X f=some a->PY P f a:=by
 intro f a h;unfold gL at h;cases c:Mq f b with
 |true=>rw[c,cond_true]at h;cases h
 |false=>rw[c,cond_false]at h;exact d f a h
