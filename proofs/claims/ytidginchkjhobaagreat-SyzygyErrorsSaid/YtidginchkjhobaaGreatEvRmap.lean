/- A range over a map: every order of the entries is looked at. -/
import Derived.Test.YtidginchkjhobaaGreatEvTop
import Derived.Maps.RangeRun
namespace Go.Ev
open Go.RowKit
structure RM where
 m:Nat
 m2:Nat
 it:Nat
 nx:Nat
 ok:Nat
 en:Nat
 b:Nat
 b2:Nat
 Vx:Nat
 tail:List Xw
 rb:XH
 yy:XH
 yx:XH
 post:XH
 ntmps:Nat
 results:List (Nat×Option (Bool×Nat))
def Qk {α:Type}:List α->List (α×List α)
 |[]=>[]
 |x::xs=>(x,xs)::(Qk xs).map fun p=>(p.1,x::p.2)
def rC (it iid:Nat)(s:St):Bool:=
 (match Xh s.T it with
  |some (.one (.ptr i 0 0 0))=>Nat.beq i iid
  |_=>false)&&
 match s.H[iid]? with
  |some b=>Nat.beq b.XX 0&&Nat.beq b.sz 0
  |none=>false
def TQ (E:Xa)(K:Nat)(rm:RM)(iid:Nat)(s:St)(c:List DL):Option St:=
 match V9 E 0 rm.tail ⟨(rm.en,.XZ [.agg (c.take rm.Vx),.agg (c.drop rm.Vx)])::(rm.ok,.one (.p (.bool true)))::(rm.nx,.XZ [.one (.p (.bool true)),.agg (c.take rm.Vx),.agg (c.drop rm.Vx)])::s.T,s.H⟩with
 |some s1=>
  match XG E K 0 rm.rb s1 with
  |some (.normal,s2)=>bif rC rm.it iid s2 then some s2 else none
  |_=>none
 |none=>none
def Q9 (E:Xa)(K:Nat)(rm:RM)(iid:Nat):Nat->List (List DL)->St->Option (List St)
 |_,[],s=>some [s]
 |0,_::_,_=>none
 |k+1,c::cs,s=>
  match Xt (fun p=>match TQ E K rm iid s p.1 with
   |some s'=>Q9 E K rm iid k p.2 s'
   |none=>none) (Qk (c::cs))with
  |some ls=>some ls.flatten
  |none=>none
theorem jl {a:Type}:∀(l:List a) (i:Nat) (x:a),l[i]? =some x->(x,l.eraseIdx i)∈Qk l
 |[],i,x,h=>by simp at h
 |y::l,0,x,h=>by simp at h;subst h;simp[Qk]
 |y::l,i+1,x,h=>by
  simp only[Qk,Zj,ZQ];exact .inr ⟨(x,l.eraseIdx i),jl l i x (by simpa using h),by simp⟩
section
variable {P:Program}{O:BS}
theorem Ts {F:Fence}(f:VY F){n:Nat}{w w':World}{d:Array Oper}{Q:Exit->Act->World->Prop}{a:Act}{o:Oper}{rest:List Oper}(i:o.guard=none)(e:∀c,o.op≠.defer c)(v:Value)(b:(execOp a.eval o).run P w=.ok (.value v) w')
  (h:wpListIn F n P d Q rest (a.put o.dst v) w'):wpListIn F n P d Q (o::rest) a w:=by
 refine wpListIn_plain i fun K g=>ai f e ?_
 unfold Oper.wp;rw[b];exact g _ _ h
structure Ao (P:Program)(nt:Nat)(rm:RM)(o2a o2b o3a o3b o4:Oper)(tl:List Oper)(rb:Code):Prop where
 a2:o2a.dst=some rm.m2/\o2a.op=.move (.tmp rm.m)/\o2a.guard=none
 b2:∃mt,o2b.dst=some rm.it/\o2b.op=.range mt (.tmp rm.m2)/\o2b.guard=none/\∃kt e,P.underlying mt=some (.map kt e)
 a3:o3a.dst=some rm.nx/\o3a.op=.next (.tmp rm.it) false/\o3a.guard=none
 b3:o3b.dst=some rm.ok/\o3b.op=.extract (.tmp rm.nx) 0/\o3b.guard=none
 a4:o4.dst=some rm.en/\o4.op=.entry (.tmp rm.it)/\o4.guard=none
 tail:Xt (Uo P nt (o4::tl)) tl=some rm.tail
 body:XN P nt rb=some rm.rb.erase
 lt:rm.m2<nt/\rm.it<nt/\rm.nx<nt/\rm.ok<nt/\rm.en<nt
 ne:rm.nx≠rm.it/\rm.ok≠rm.it/\rm.m2≠rm.it
def qJ (rm:RM)(i3 i4:Nat)(o3a o3b o4:Oper)(tl:List Oper)(rb:Code):Code:=
 (Code.region i3 #[o3a,o3b] false).seq ((Code.cond (.tmp rm.ok) .skip (.exit rm.b)).seq (Code.block rm.b2 ((Code.region i4 (o4::tl).toArray false).seq rb)))
def VV (ps:List (MapEntry×List DL))(g:Nat->Bool):List (MapEntry×List DL):=ps.filter fun p=> !g p.1.born
theorem rz (g n:Nat->Bool):∀(f:List (MapEntry×List DL)) (e:MapEntry) (c:List DL),(∀y,n y=(g y||y==e.born))->f.Pairwise (fun a b=>a.1.born≠b.1.born)->(e,c)∈f->g e.born=false->
  ∃i,(VV f g)[i]? =some (e,c)/\VV f n=(VV f g).eraseIdx i:=by
 intro f;induction f with
 |nil=>intro e c _ _ h;simp at h
 |cons p f w=>
  intro e c d v o u;obtain⟨m,s⟩:=Zv.1 v;rcases Zj.1 o with rfl|o
  ·refine⟨0,by simp[VV,u],?_⟩;have k:VV ((e,c)::f) g=(e,c)::VV f g:=by simp[VV,u]
   have l:VV ((e,c)::f) n=VV f n:=by
    simp only[VV];rw[Yy];simp[d]
   rw[k,l,List.eraseIdx_cons_zero];unfold VV;refine List.filter_congr fun q j=> ?_
   have:=m q j;rw[d];have :(q.1.born==e.born)=false:=by simpa using fun h=>this h.symm
   rw[this,Bool.or_false]
  ·obtain⟨i,k,l⟩:=w e c d s o u;have r:p.1.born≠e.born:=m (e,c) o;have t:(p.1.born==e.born)=false:=by simpa using r
   cases j:g p.1.born with
   |true=>
    refine⟨i,?_,?_⟩
    ·simp only[VV]at k⊢;rw[Yy (by simp[j])];exact k
    ·simp only[VV]at l⊢;rw[Yy (by rw[d,j];simp),Yy (by simp[j])];exact l
   |false=>
    refine⟨i+1,?_,?_⟩
    ·simp only[VV]at k⊢;rw[YE (by simp[j])];simpa using k
    ·simp only[VV]at l⊢;rw[YE (by rw[d,j,t];simp),YE (by simp[j]),List.eraseIdx_cons_succ,l]
theorem gH (seen:Array Nat)(x y:Nat):(seen.push x).contains y=(seen.contains y||y==x):=by
 rw[Array.contains_push]
structure D7 (nt lo:Nat)(rm:RM)(iid:Nat)(O:BS)(w0:World)(μ0':Nat->Nat)(hh:HF)(es:Array MapEntry)(clk bm r:Nat)(QG:Xz)(seen:Array Nat)(s:St)(W:World)(μ:Nat->Nat)(a:Act):Prop where
 inv:X0 W O μ (Xn s.H)
 iW:Wu lo nt O W μ (Xn s.H) a s.T
 mono:WD O w0 μ0' hh W μ (Xn s.H)
 map:W.heap[bm]? =some (.map es clk)
 iter:W.heap[r]? =some (.mapIter (some bm) clk seen clk)
 it:rC rm.it iid s=true
 mu:μ iid=r
 Gc:¬Live O μ (Xn s.H) r
 Gd:¬Live O μ (Xn s.H) bm
 low:w0.heap.size<=r
 EZ:XF (Ps W O μ (Xn s.H) QG) es.toList QG.ch
theorem jy {e a:Nat}{s:St}(h:rC e a s=true):Xh s.T e=some (.one (.ptr a 0 0 0))/\∃b,Xn s.H a=some b/\b.XX=0/\b.sz=0:=by
 unfold rC at h;rw[Zs]at h;obtain⟨d,c⟩:=h;split at d
 ·rename_i i g;have:=Zl d;subst this;refine⟨g,?_⟩;split at c
  ·rename_i b f;rw[Zs]at c;exact⟨b,f,Zl c.1,Zl c.2⟩
  ·simp at c
 ·simp at d
theorem Ps.mono {w f:World}{g a:Nat->Nat}{h d:HF}{b:Xz}{e:MapEntry}{c:List DL}(m:WD O w g h f a d)(x:Ps w O g h b e c):Ps f O a d b e c:=by
 obtain⟨n,o,i,j,k,l⟩:=x;exact⟨n,o,i,j,k,l.imp fun _ _=>XL.mono m⟩
theorem Ps.same {w a:World}{d:Nat->Nat}{h:HF}{b:Xz}{e:MapEntry}{c:List DL}(m:UZ w a)(x:Ps w O d h b e c):Ps a O d h b e c:=by
 obtain⟨k,l,f,g,i,j⟩:=x;exact⟨k,l,f,g,i,j.imp fun _ _=>XL.same m⟩
theorem Qx (m:Option Nat)(a:Nat)(b:Array Nat)(c:Nat):iK (.mapIter m a b c):=⟨(fun _ _ _ h=>by cases h),(fun _ _ h=>by cases h)⟩
theorem jv (g:Nat->Bool):∀(l:List MapEntry) (ch:List (List DL)),l.length=ch.length->(VV (l.zip ch) g).map (·.1)=l.filter fun e=> !g e.born
 |[],[],_=>rfl
 |[],_::_,h=>by simp at h
 |_::_,[],h=>by simp at h
 |e::l,c::ch,h=>by
  have b:=jv g l ch (by simpa using h);simp only[VV,List.zip_cons_cons]at b⊢;cases a:g e.born with
  |true=>rw[Yy (by simp[a]),Yy (by simp[a])];exact b
  |false=>rw[YE (by simp[a]),YE (by simp[a])];simp[b]
theorem O2 {a b:Type}(f:a->b):∀(l:List a) (i:Nat),(l.eraseIdx i).map f=(l.map f).eraseIdx i
 |[],_=>by simp
 |_::_,0=>by simp
 |x::l,i+1=>by simp[O2 f l i]
theorem ae {R:MapEntry->MapEntry->Prop}:∀(l:List MapEntry) (ch:List (List DL)),l.Pairwise R->(l.zip ch).Pairwise fun a b=>R a.1 b.1
 |[],_,_=>by simp
 |_::_,[],_=>by simp
 |e::l,c::ch,h=>by
  obtain⟨d,f⟩:=Zv.1 h;rw[List.zip_cons_cons];exact Zv.2 ⟨fun p g=>d p.1 (List.of_mem_zip g).1,ae l ch f⟩
theorem yf {w:World}{a:Nat->Nat}{h:HF}{b c d:Value}{e f g:DV}(i:VJ w O a h b e)(j:VJ w O a h c f)(k:VJ w O a h d g):XB w O a h (.tuple #[b,c,d]) (.XZ [e,f,g]):=⟨[b,c,d],rfl,.cons i (.cons j (.cons k .nil))⟩
theorem PH (a:Act)(t:Nat)(v:Value)(b:t<a.tmps.size):(a.put (some t) v).eval (.tmp t)=v:=nD a t v b
theorem nl (E:Xa)(hE:Wq P E)(hD:Oo P E)(K:Nat){nt lo:Nat}(d:RM){d9 e0 a6 c4 o4:Oper}{tl:List Oper}{rb:Code}(k:Ao P nt d d9 e0 a6 c4 o4 tl rb)(i3 i4 D:Nat)
  {w0:World} {u:Nat->Nat} {hh:HF} (c5:X0 w0 O u hh) (m:Array MapEntry) (f w r:Nat) (j:Xz) (f2:j.sz=d.Vx) (d8:Nat.beq j.ty 1=true) (z:qf m.toList f) (Q:Exit->Act->World->Prop) (N:Act->World->Prop)
  (seen:Array Nat) (s:St) (W:World) (n:Nat->Nat) (a:Act) (l:D7 nt lo d D O w0 u hh m f w r j seen s W n a)
  (Y:VV (m.toList.zip j.ch) seen.contains=[]->∀a,Wu lo nt O W n (Xn s.H) a ((d.ok,.one (.p (.bool false)))::(d.nx,.XZ [.one (.p (.bool false))])::s.T)->Q (.exit d.b) a W)
  (a1:∀e c,(e,c)∈m.toList.zip j.ch->seen.contains e.born=false->∃s',TQ E K d D s c=some s'/\∀W' e1 a',D7 nt lo d D O w0 u hh m f w r j (seen.push e.born) s' W' e1 a'->N a' W'):
  (qJ d i3 i4 a6 c4 o4 tl rb).wpIn Fence.wide 0 P (Exit.then N Q) a W:=by
 have M:VY Fence.wide:=.inl rfl;obtain⟨d2,ib,b1,b4,d1⟩:=jy l.it;have e5:=l.iW.sz;have a2:a.eval (.tmp d.it)=.pointer (some ⟨r,0,none⟩):=by
  obtain⟨b,g,o,e,hb,_,hs⟩:=(l.iW.slot d.it _ d2).Q6;rw[b1]at hb;cases hb;obtain⟨h1,h2⟩:=hs b4.symm;have :a.eval (.tmp d.it)=a.tmps.getD d.it undef:=rfl;rw[this,e,h1,h2,l.mu,d1]
 obtain⟨e9,e6,f0,f1,e7⟩:=k.lt;have b7:m.toList.length=j.ch.length:=l.EZ.length;refine wpIn_seq (wpIn_region_list ?_);rcases run_next_at (P:=P) W a6.type r w f f seen m f l.iter l.map z.2 (Zh _)with⟨h0,t⟩|⟨e,he,w1,c3,t⟩
 ·refine Ts M k.a3.2.2 (by rw[k.a3.2.1];intro c h;cases h) _ (w':=W) (by simp only[execOp,k.a3.2.1];exact Wy (by rw[a2];exact t)) ?_;rw[k.a3.1];refine Ts M k.b3.2.2 (by rw[k.b3.2.1];intro c h;cases h) (.bool false) (w':=W) (by simp only[execOp,k.b3.2.1];exact Wy (by rw[PH _ _ _ (by omega)];simp[Instr.extract])) ?_;rw[k.b3.1];refine wpIn_seq (wpIn_cond_false (PH _ _ _ (by rw[(put_defers _ _ _).2];omega)) (wpIn_exit ?_));have G:=(l.iW.put (some d.nx) (by simp[Pp];omega) (.tuple #[.bool false]) (.XZ [.one (.p (.bool false))]) ⟨[.bool false],rfl,.cons (XL.p _ _ (.bool _)) .nil⟩).put (some d.ok) (by simp[Pp];omega) (.bool false) (.one (.p (.bool false))) (XL.p _ _ (.bool _));refine Y ?_ _ G;have :(VV (m.toList.zip j.ch) seen.contains).map (·.1)=[]:=by
   rw[jv _ _ _ b7];have :(leftOf m seen).toList=[]:=by simpa using h0
   rw[<-this];simp[leftOf]
  simpa using this
 ·have V:e∈m.toList/\seen.contains e.born=false:=by
   simp only[leftOf,Array.toList_filter,YD]at he;exact⟨he.1,by simpa using he.2⟩
  obtain⟨q,hq⟩:=ZC.1 V.1;obtain⟨c,hc⟩:∃c,j.ch[q]? =some c:=⟨_,Zf (by have:=(Zb.1 hq).1;omega)⟩;have b8:(e,c)∈m.toList.zip j.ch:=ZC.2 ⟨q,by simp[List.getElem?_zip_eq_some,hq,hc]⟩;obtain⟨s',i,hN⟩:=a1 e c b8 V.2;have F:WD O W n (Xn s.H) w1 n (Xn s.H)/\X0 w1 O n (Xn s.H):=by
   rcases c3 with rfl|rfl
   ·exact⟨WD.refl _ _ _ _,l.inv⟩
   ·exact Tu l.inv (Zh _) (fun _ _=>rfl) rfl rfl rfl
  have b0:w1.heap=W.heap:=by rcases c3 with rfl|rfl<;>rfl
  have Z:w1.heap[r]? =some (.mapIter (some w) f seen f):=by rw[b0];exact l.iter
  have c0:r<w1.heap.size:=(Ya.1 Z).1;have d5:w≠r:=fun e=>by have:=l.map;rw[e,l.iter]at this;cases this
  generalize v:w1.putObj r (.mapIter (some w) f (seen.push e.born) f)=W2;have c1:ChangeMaps.setBlock w1 r (.mapIter (some w) f (seen.push e.born) f)=W2:=v;rw[c1]at t;have sd:UZ w1 W2:=by rw[<-v];exact UJ Z (Qx _ _ _ _) (Qx _ _ _ _)
  have c6:X0 W2 O n (Xn s.H):=F.2.same sd;have c8:Wu lo nt O W2 n (Xn s.H) a s.T:=by rw[<-v];exact(l.iW.mono F.1).same Z (Qx _ _ _ _) (fun _ h=>by cases h) (Qx _ _ _ _)
  have c7:WD O w0 u hh W2 n (Xn s.H):=by rw[<-v];exact TB c5 (l.mono.trans F.1) l.low _
  have B:W2.heap[r]? =some (.mapIter (some w) f (seen.push e.born) f):=by rw[<-v];exact World.putObj_heap_same c0
  have C:W2.heap[w]? =some (.map m f):=by rw[<-v,World.putObj_heap_other d5,b0];exact l.map
  have A:XF (Ps W2 O n (Xn s.H) j) m.toList j.ch:=l.EZ.imp fun x y a5=>(a5.mono F.1).same sd
  obtain⟨e2,a8,kv,xv,d3,X,e8,b6⟩:=A.get q c hc;rw[hq]at a8;cases a8;rw[d8]at X;simp only[Pq,if_true]at X;have U5:XF (XL W2 O n (Xn s.H)) kv (c.take d.Vx):=by
   have:=b6.take d.Vx
   rwa[Y6 (by omega),Zd (by omega)]at this
  have U:XF (XL W2 O n (Xn s.H)) xv (c.drop d.Vx):=by
   have:=b6.drop d.Vx
   rwa[YT (by omega),Zm (by omega),ZF]at this
  have J:VJ W2 O n (Xn s.H) e.key (.agg (c.take d.Vx)):=⟨kv,d3,U5⟩;have L:VJ W2 O n (Xn s.H) e.val (.agg (c.drop d.Vx)):=⟨xv,X,U⟩;have a7:VJ W2 O n (Xn s.H) (.bool true) (.one (.p (.bool true))):=XL.p _ _ (.bool _);refine Ts M k.a3.2.2 (by rw[k.a3.2.1];intro c h;cases h) _ (w':=W2) (by simp only[execOp,k.a3.2.1];exact Wy (by rw[a2];exact t)) ?_;rw[k.a3.1];refine Ts M k.b3.2.2 (by rw[k.b3.2.1];intro c h;cases h) (.bool true) (w':=W2) (by simp only[execOp,k.b3.2.1];exact Wy (by rw[PH _ _ _ (by omega)];simp[Instr.extract])) ?_;rw[k.b3.1];have d6:=(c8.put (some d.nx) (by simp[Pp];omega) (.tuple #[.bool true,e.key,e.val]) (.XZ [.one (.p (.bool true)),.agg (c.take d.Vx),.agg (c.drop d.Vx)]) (yf a7 J L)).put (some d.ok) (by simp[Pp];omega) (.bool true) (.one (.p (.bool true))) a7;refine wpIn_seq (wpIn_cond_true (PH _ _ _ (by rw[(put_defers _ _ _).2];omega)) (wpIn_skip ?_));refine wpIn_block (wpIn_seq (wpIn_region_list ?_));have c2:(((a.put (some d.nx) (.tuple #[.bool true,e.key,e.val])).put (some d.ok) (.bool true)).eval (.tmp d.it))=.pointer (some ⟨r,0,none⟩):=by
   show(((a.put (some d.nx) (.tuple #[.bool true,e.key,e.val])).put (some d.ok) (.bool true)).tmps.getD d.it undef)=_;rw[Oz _ _ _ _ (fun h=>k.ne.2.1 (by simpa using h)),Oz _ _ _ _ (fun h=>k.ne.1 (by simpa using h))];exact a2
  have b9:(m.toList.map (·.born)).Nodup:=List.pairwise_map.2 z.1;show wpListIn Fence.wide 0 P (o4::tl).toArray _ (o4::tl) _ W2;refine Ts M k.a4.2.2 (by rw[k.a4.2.1];intro c h;cases h) (.tuple #[e.key,e.val]) (w':=W2) (by simp only[execOp,k.a4.2.1];exact Wy (by rw[c2];exact run_entry_at W2 r w f seen m f e B C V.1 b9)) ?_;rw[k.a4.1];have d7:=d6.put (some d.en) (by simp[Pp];omega) (.tuple #[e.key,e.val]) (.XZ [.agg (c.take d.Vx),.agg (c.drop d.Vx)]) (nw J L);unfold TQ at i;split at i
  ·rename_i s1 d0;split at i
   ·rename_i s2 a9;obtain⟨I,c9⟩:=Xv i;subst c9;refine gw (O:=O) E hE M 0 0 (nt:=nt) (o4::tl) tl d.tail k.tail _ s1 _ W2 n d0 c6 d7 fun a3 w3 e3 g1 g2 g3=> ?_
    refine Qw E hE hD K 0 nt d.rb O Fence.wide 0 lo M (.inl rfl) rb k.body s1 .normal s2 a9 a3 w3 e3 g1 g2 _ fun a4 w4 e4 k1 k2 k3=> ?_
    have R:=g3.trans k3;obtain⟨_,f3,b2,b5,_⟩:=jy I;have d4:e4 D=r:=by
     obtain⟨b',h1,_,_,h4⟩:=R.ids D ib b1;rw[b2]at h1;cases h1;rw[(h4 (by rw[b4,b5])).1];exact l.mu
    have a0:r<W2.heap.size:=(Ya.1 B).1;have S:w<W2.heap.size:=(Ya.1 C).1;exact hN _ _ _ ⟨k1,k2,c7.trans R,(R.keeps.VW _ S l.Gd).trans C,(R.keeps.VW _ a0 l.Gc).trans B,I,d4,fun hl=>(R.keeps.live _ hl).elim l.Gc (by omega),fun hl=>(R.keeps.live _ hl).elim l.Gd (by omega),l.low,A.imp fun x y a5=>a5.mono R⟩
   ·simp at i
  ·simp at i
theorem A6 (E:Xa)(hE:Wq P E)(hD:Oo P E)(K:Nat){nt lo:Nat}(n:RM){a2 a3 L M o4:Oper}{tl:List Oper}{rb:Code}(ho:Ao P nt n a2 a3 L M o4 tl rb)(i3 i4 u:Nat)
  {w0:World} {l:Nat->Nat} {Z:HF} (A:X0 w0 O l Z) (h:Array MapEntry) (q X r:Nat) (d:Xz) (I:d.sz=n.Vx) (J:Nat.beq d.ty 1=true) (f:qf h.toList q) (Q:Exit->Act->World->Prop) (ss:List St)
  (hQ:∀s∈ss,∀a W o,X0 W O o (Xn s.H)->Wu lo nt O W o (Xn s.H) a ((n.ok,.one (.p (.bool false)))::(n.nx,.XZ [.one (.p (.bool false))])::s.T)->WD O w0 l Z W o (Xn s.H)->Q (.exit n.b) a W):
  ∀(k:Nat) (seen:Array Nat) (s:St) (W:World) (o:Nat->Nat) (a:Act) (R:List St),D7 nt lo n u O w0 l Z h q X r d seen s W o a->(VV (h.toList.zip d.ch) seen.contains).length=k->Q9 E K n u k ((VV (h.toList.zip d.ch) seen.contains).map (·.2)) s=some R->(∀x∈R,x∈ss)->
   Code.roundsIn Fence.wide 0 P (qJ n i3 i4 L M o4 tl rb) Q (k+1) a W:=by
 intro k;induction k with
 |zero=>
  intro seen s W o a R N z m w;have g:VV (h.toList.zip d.ch) seen.contains=[]:=Yq z;refine nl E hE hD K n ho i3 i4 u A h q X r d I J f Q _ seen s W o a N (fun _ V G=> ?_) fun e c hm G=> ?_
  ·rw[g]at m;simp only[ZE,Q9,Za]at m;exact hQ s (w s (by rw[<-m];simp)) V W o N.inv G N.mono
  ·exfalso;have :(e,c)∈VV (h.toList.zip d.ch) seen.contains:=YD.2 ⟨hm,by simp only[G,YO]⟩;rw[g]at this;simp at this
 |succ k ih=>
  intro seen s W o a R N z m w;refine nl E hE hD K n ho i3 i4 u A h q X r d I J f Q _ seen s W o a N (fun g=> ?_) fun e c hm G=> ?_
  ·rw[g]at z;simp at z
  ·obtain⟨i,h1,h2⟩:=rz seen.contains (seen.push e.born).contains (h.toList.zip d.ch) e c (fun y=>gH seen e.born y) (ae _ _ f.1) hm G;cases S:(VV (h.toList.zip d.ch) seen.contains).map (·.2)with
   |nil=>
    have :((VV (h.toList.zip d.ch) seen.contains).map (·.2)).length=0:=by rw[S];rfl
    simp at this;rw[this]at z;simp at z
   |cons Y v=>
   rw[S]at m;simp only[Q9]at m;split at m
   ·rename_i U a0;simp only[Za]at m;subst m;have a1:(c,(Y::v).eraseIdx i)∈Qk (Y::v):=jl _ _ _ (by rw[<-S,ZA,h1];rfl);obtain⟨j,hj⟩:=ZC.1 a1;obtain⟨D,B⟩:=Td a0;have C:j<U.length:=by rw[<-D];exact(Zb.1 hj).1
    obtain⟨p,F,t⟩:=B j U[j] (Zf C);rw[hj]at F;cases F;simp only at t;split at t
    ·rename_i s' hr;refine⟨s',hr,fun W' a5 V a4=>ih (seen.push e.born) s' W' a5 V U[j] a4 ?_ ?_ fun x hx=>w x (List.mem_flatten.2 ⟨U[j],Yz C,hx⟩)⟩
     ·rw[h2,List.length_eraseIdx,if_pos (Zb.1 h1).1];omega
     ·rw[h2];have :((VV (h.toList.zip d.ch) seen.contains).eraseIdx i).map (·.2)=(Y::v).eraseIdx i:=by rw[<-S,O2]
      rw[this];exact t
    ·simp at t
   ·simp at m
end
end Go.Ev
namespace Go.Ev
open Go.RowKit
def gz {α:Type}(f:α->α->Bool):List α->List α->Bool
 |[],[]=>true
 |x::xs,y::ys=>f x y&&gz f xs ys
 |_,_=>false
theorem ef {c:Type}{f:c->c->Bool}(d:∀x y,f x y=true->x=y):∀(a b:List c),gz f a b=true->a=b
 |[],[],_=>rfl
 |[],_::_,h=>by simp[gz]at h
 |_::_,[],h=>by simp[gz]at h
 |x::xs,y::ys,h=>by
  simp only[gz,Zs]at h;rw[d x y h.1,ef d xs ys h.2]
def qI (E:Xa)(K:Nat)(rm:RM)(s:St):Option PV:=
 match XG E K 0 rm.post ⟨(rm.ok,.one (.p (.bool false)))::(rm.nx,.XZ [.one (.p (.bool false))])::s.T,s.H⟩with
 |some (.normal,s1)|some (.ret,s1)=>
  match Xt (WA s1) rm.results with
  |some rs=>match Xt (XY (Xn s1.H)) rs with
   |some ps=>some (cM ps)
   |none=>none
  |none=>none
 |_=>none
def Vq (b:Xz):Xz:={b with fz:=true}
structure Ap (P:Program)(f:Nat)(rm:RM):Prop where
 ok:∃fn R0 R1 C i2 i3 i4 o2a o2b o3a o3b o4 tl rb,P.funcs[f]? =some fn/\
  fn.body = some (Code.seq R0 (Code.seq R1 (Code.seq (Code.seq (Code.region i2 #[o2a, o2b] false) (Code.block rm.b (Code.loop (qJ rm i3 i4 o3a o3b o4 tl rb)))) C))) /\ (fn.name == "runtime.NumGoroutine") = false /\ fn.ntmps = rm.ntmps /\
  XN P fn.ntmps R0=some rm.yy.erase/\XN P fn.ntmps R1=some rm.yx.erase/\XN P fn.ntmps C=some rm.post.erase/\Xt (Rj P) fn.results.toList=some rm.results/\Ao P fn.ntmps rm o2a o2b o3a o3b o4 tl rb
theorem qc (H:List Xz):Xn (H.map Vq)=wX (Xn H) (List.range H.length):=by
 funext x;simp only[Xn,wX,ZA];cases a:H[x]? with
 |none=>simp
 |some b=>
  have :x<H.length:=(Zb.1 a).1;simp[Vq,this]
theorem vi {P:Program}(E:Xa)(hE:Wq P E)(hD:Oo P E)(K:Nat){f:Nat}{a:RM}(hf:Ap P f a)(args:List DV)(H:List Xz)(r:PV){s1 d:St}{id:Nat}{b:Xz}{ss:List St}(e3:args.length<=a.ntmps)
  (c4:XG E K 0 a.yy ⟨Ur args 0,H.map Vq⟩=some (.normal,s1)) (c5:XG E K 0 a.yx s1=some (.normal,d)) (c8:Xh d.T a.m=some (.one (.mp id))) (hb:d.H[id]? =some b) (c9:b.mp=true) (e2:b.fz=true) (d5:Nat.beq b.ty 1=true) (f1:b.sz=a.Vx)
  (c6:Q9 E K a d.H.length b.ch.length b.ch ⟨(a.it,.one (.ptr d.H.length 0 0 0))::(a.m2,.one (.mp id))::d.T,d.H++[⟨true,0,0,[],true,2⟩]⟩=some ss) (b3:∀s∈ss,qI E K a s=some r):CH P f args H (inj r) (H.map Vq)/\mz P f:=by
 obtain⟨L,R0,R1,C,i2,i3,i4,g6,g7,g8,g9,o4,tl,rb,c7,G,a9,e7,d8,d9,e0,d3,ho⟩:=hf.ok;refine⟨fun w O μ vs hI a4=> ?_,cg c7 a9 G⟩;have d6:Nat.beq b.ty 2=false:=by rw[Zl d5];rfl
 have hF:VY Fence.wide:=.inl rfl;obtain⟨fm,fi⟩:=bU (w':=w) hI (List.range H.length) (Zh _) (fun _ _=>rfl) rfl rfl rfl;rw[<-qc]at fm fi;have B:∀q,Live O μ (Xn (H.map Vq)) q->O q:=by
  rintro q (Q|⟨i,M,A,R,_⟩)
  ·exact Q
  ·simp only[Xn,ZA]at A;cases hx:H[i]? with
   |none=>simp[hx]at A
   |some c=>simp only[hx,Z4,Za]at A;subst A;simp[Vq]at R
 have f0:Wu w.heap.size L.ntmps O w μ (Xn (H.map Vq)) {tmps:=vs.toArray++Array.replicate (L.ntmps-vs.toArray.size) undef,defers:=[]} (Ur args 0):=
  cG (Zh _) (by rw[e7];exact e3) (a4.imp fun v x hx=>hx.mono fm)
 refine(callsIn_wide (n:=0)).1 (callsIn_of_wp_marks c7 G trivial ?_);refine wpIn_seq (Qw E hE hD K 0 L.ntmps a.yy O Fence.wide 0 w.heap.size hF (.inl rfl) R0 d8 ⟨Ur args 0,H.map Vq⟩ .normal s1 c4 _ w μ fi f0 _ fun a1 w1 f5 g1 g2 g3=> ?_);refine wpIn_seq (Qw E hE hD K 0 L.ntmps a.yx O Fence.wide 0 w.heap.size hF (.inl rfl) R1 d9 s1 .normal d c5 a1 w1 f5 g1 g2 _ fun a2 D g k1 k2 k3=> ?_);refine wpIn_seq (wpIn_seq (wpIn_region_list ?_));have c0:=g3.trans k3;have N:Xn d.H id=some b:=hb;obtain⟨es,j,b8,⟨_,a6⟩,S⟩:=(k1.QG id b N).map c9 d6;have f2:a2.eval (.tmp a.m)=.map (some (g id)):=by
  have d7:XL D O g (Xn d.H) (a2.tmps.getD a.m undef) (.mp id):=k2.slot a.m _ c8;show a2.tmps.getD a.m undef=_;generalize a2.tmps.getD a.m undef=v at d7;cases d7 with
  |mp _ _ _ _=>rfl
 obtain⟨g4,f8,g5,b1,g0⟩:=ho.lt;obtain⟨mt,c1,U,c2,kt,et,e6⟩:=ho.b2;refine Ts hF ho.a2.2.2 (by rw[ho.a2.2.1];intro c h;cases h) (.map (some (g id))) (w':=D) (by simp only[execOp,ho.a2.2.1,f2];rfl) ?_;rw[ho.a2.1];have e8:=k2.put (some a.m2) (by simp[Pp];omega) (.map (some (g id))) (.one (.mp id)) (XL.mp id b N c9);have f9:=k2.sz;refine Ts hF c2 (by rw[U];intro c h;cases h) (.pointer (some ⟨D.heap.size,0,none⟩)) (w':=D.alloc (.mapIter (some (g id)) j #[] j)) (by
  simp only[execOp,U];refine Wy ?_;rw[PH _ _ _ (by omega)];simp[Instr.range,QT e6,MapKept.run_getObj_map b8,newObj,go_sem,Result.andThen];rfl) ?_
 rw[c1];have b0:Xn d.H d.H.length=none:=by simp[Xn]
 obtain⟨am,Z⟩:=R2 (w':=D.alloc (.mapIter (some (g id)) j #[] j)) (n:=d.H.length) k1 b0 ⟨true,0,0,[],true,2⟩ (by simp) (fun k hk=>RowKit.Below.heap_alloc _ _ _ hk) rfl rfl rfl;have b9:(fun x=>if x=d.H.length then some (⟨true,0,0,[],true,2⟩:Xz)else Xn d.H x)=Xn (d.H++[⟨true,0,0,[],true,2⟩]):=by
  rw[er];rfl
 have X:(D.alloc (.mapIter (some (g id)) j #[] j)).heap[D.heap.size]? =some (.mapIter (some (g id)) j #[] j):=Go.heap_alloc_new D _;have Z:=Z (by
  unfold WJ;simp only[if_true];rw[if_pos (show Nat.beq 2 2=true from rfl)];exact⟨_,X,Qx _ _ _ _⟩)
 rw[b9]at am Z;generalize Y:(fun i=>if i=d.H.length then D.heap.size else g i)=μ3 at am Z;have a7:id<d.H.length:=(Zb.1 hb).1;have t:μ3 d.H.length=D.heap.size:=by rw[<-Y];simp
 have e9:Wu w.heap.size L.ntmps O (D.alloc (.mapIter (some (g id)) j #[] j)) μ3 (Xn (d.H++[⟨true,0,0,[],true,2⟩])) ((a2.put (some a.m2) (.map (some (g id)))).put (some a.it) (.pointer (some ⟨D.heap.size,0,none⟩))) ((a.it,.one (.ptr d.H.length 0 0 0))::(a.m2,.one (.mp id))::d.T):=by
  refine(e8.mono am).put (some a.it) (by simp[Pp];omega) _ (.one (.ptr d.H.length 0 0 0)) (XL.ptr d.H.length 0 0 0 ⟨true,0,0,[],true,2⟩ _ _ (by simp[Xn]) (Zh _) fun _=>⟨t.symm,by simp⟩)
 have d1:¬Live O μ3 (Xn (d.H++[⟨true,0,0,[],true,2⟩])) D.heap.size:=by
  rintro (Q|⟨i,M,A,R,h3⟩)
  ·have:=k1.lt _ Q;omega
  ·by_cases e:i=d.H.length
   ·subst e;simp[Xn]at A;subst A;simp at R
   ·have:=Z.inj i d.H.length M _ A (by simp[Xn];rfl) (by rw[h3,t]);exact e this
 have d0:¬Live O μ3 (Xn (d.H++[⟨true,0,0,[],true,2⟩])) (g id):=by
  have V:Xn (d.H++[⟨true,0,0,[],true,2⟩]) id=some b:=by simp only[Xn];rw[ZB a7];exact hb
  have b5:μ3 id=g id:=by rw[<-Y];simp only[];rw[if_neg (by omega)]
  rintro (Q|⟨i,M,A,R,h3⟩)
  ·exact k1.Nt id b N Q
  ·have:=Z.inj i id M b A V (by rw[h3,b5]);subst this;rw[V]at A;cases A;rw[e2]at R;cases R
 have a0:=c0.trans am;refine wpIn_block (wpIn_loop_rounds (b.ch.length+1) ?_);have e4:es.toList.length=b.ch.length:=S.length;have I:VV (es.toList.zip b.ch) (#[]:Array Nat).contains=es.toList.zip b.ch:=by
  unfold VV;exact List.filter_eq_self.2 fun p _=>by simp
 have d4:(es.toList.zip b.ch).map (·.2)=b.ch:=by
  have:=List.map_snd_zip (l₁:=es.toList) (l₂:=b.ch) (by omega);exact this
 refine A6 (lo:=w.heap.size) E hE hD K a ho i3 i4 d.H.length fi es j (g id) D.heap.size b f1 d5 a6 _ ss ?_ b.ch.length #[] ⟨(a.it,.one (.ptr d.H.length 0 0 0))::(a.m2,.one (.mp id))::d.T,d.H++[⟨true,0,0,[],true,2⟩]⟩ _ μ3 _ ss ⟨Z,e9,a0,?_,X,?_,t,d1,d0,c0.keeps.size,?_⟩ ?_ ?_ (fun x hx=>hx)
 ·
  intro s hs a3 W f6 A R h3;show(if a.b=a.b then _ else _);rw[if_pos rfl];have hp:=b3 s hs;unfold qI at hp;have b7:∀(ex:Ex) (F:St),(ex=.normal\/ex=.ret)->XG E K 0 a.post ⟨(a.ok,.one (.p (.bool false)))::(a.nx,.XZ [.one (.p (.bool false))])::s.T,s.H⟩=some (ex,F)->
    (match Xt (WA F) a.results with
     |some rs=>match Xt (XY (Xn F.H)) rs with
      |some ps=>some (cM ps)
      |none=>none
     |none=>none)=some r->C.wpIn Fence.wide 0 P (bodyPostM Fence.wide 0 P L (fun e u=>∃v z,e=.returned v/\XB u O z (Xn (H.map Vq)) v (inj r)/\X0 u O z (Xn (H.map Vq))/\WD O w μ (Xn H) u z (Xn (H.map Vq)))) a3 W:=by
   intro ex F e1 o J;cases a8:Xt (WA F) a.results with
   |none=>simp[a8]at J
   |some b6=>
   simp only[a8]at J;cases b4:Xt (XY (Xn F.H)) b6 with
   |none=>simp[b4]at J
   |some f4=>
   simp only[b4,Za]at J;refine Qw E hE hD K 0 L.ntmps a.post O Fence.wide 0 w.heap.size hF (.inl rfl) C e0 _ ex F o a3 W f6 A R _ fun a5 w5 f7 m1 m2 m3=> ?_
   have e5:=Q4 (P:=P) (O:=O) (μ:=f7) (nt:=L.ntmps) (s:=F) (fn:=L) fi a.results b6 d3 a8 (fun e u=>∃v z,e=.returned v/\XB u O z (Xn (H.map Vq)) v (inj r)/\X0 u O z (Xn (H.map Vq))/\WD O w μ (Xn H) u z (Xn (H.map Vq))) a5.tmps
    (fun us u n1 n2 n3=>by
     have c3:∀k,k<w.heap.size->u.heap[k]? =w.heap[k]? :=fun k hk=>by
      by_cases b1:O k
      ·exact n3.jn k b1
      ·exact n3.keeps.VW k hk fun hl=>b1 (B k hl)
     obtain⟨gm,gi⟩:=Tu (w':=u) fi n3.keeps.size c3 n3.os n3.tape n3.output;refine⟨_,μ,rfl,?_,gi,fm.trans gm⟩;have d2:=nN n1 O (fun q Q=>.inl Q) (fun id b hb=>n1.Nt id b hb) us b6 f4 n2 b4;rw[J]at d2;refine lJ (fun v l hl=> ?_) d2;rw[RX]at hl;exact hl.Al fun q Q=>B q Q)
    a5.defers w5 m1 m2 (h3.trans m3)
   rcases e1 with rfl|rfl<;>exact e5
  split at hp
  ·rename_i F o;exact b7 .normal F (.inl rfl) o hp
  ·rename_i F o;exact b7 .ret F (.inr rfl) o hp
  ·simp at hp
 ·exact(RowKit.Below.heap_alloc _ _ _ (k1.lt_size N)).trans b8
 ·simp[rC,Ux]
 ·exact S.imp fun x y f3=>f3.mono am
 ·rw[I,List.length_zip];omega
 ·rw[I,d4];exact c6
def Fz (n:Nat):List Nat->Bool
 |[]=>false
 |x::xs=>bif Nat.beq n x then true else Fz n xs
def dM (fs:List Nat)(X:Nat->Option Vb):Nat->Option Vb:=fun f=>bif Fz f fs then none else X f
theorem qo {P:Program}{X:Nat->Option Vb}(b:List Nat)(d:∀f a,X f=some a->QK P f a):∀f a,dM b X f=some a->QK P f a:=by
 intro f a h;unfold dM at h;cases c:Fz f b with
 |true=>rw[c,cond_true]at h;cases h
 |false=>rw[c,cond_false]at h;exact d f a h
end Go.Ev
