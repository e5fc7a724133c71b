/- The terms of a map, sorted: the contract. -/
import Derived.Test.YtidginchkjhobaaGreatGrB
set_option maxHeartbeats 16000000
set_option maxRecDepth 100000
namespace Go.Ev
open Go.Proofs.YtidginchkjhobaaGreat
theorem tQ {b c:Type}{f:b->Option c}:∀{l:List b} {r:List c},Xw f l=some r->r.length=l.length
 |[],r,h=>by cases h;rfl
 |x::l,r,h=>by
  simp only[Xw]at h;split at h
  ·cases h
  ·split at h
   ·cases h
   ·rename_i a;cases h;simp[tQ a]
theorem fW {b c:Type}{f:b->Option c}:∀{l m:List b} {r q:List c},Xw f l=some r->Xw f m=some q->Xw f (l++m)=some (r++q)
 |[],m,r,q,h,k=>by cases h;simpa using k
 |x::l,m,r,q,h,k=>by
  simp only[Xw]at h;split at h
  ·cases h
  ·rename_i y d;split at h
   ·cases h
   ·rename_i e a;cases h;simp only[ZD,Xw,d,fW a k]
theorem Bi {k n:Type}{f:k->Option n}{l m:List k}(u:l.Perm m):∀{r},Xw f l=some r->∃q,Xw f m=some q/\r.Perm q:=by
 induction u with
 |nil=>simp_all
 |cons x _ v=>
  intro r h;simp only[Xw]at h;split at h
  ·cases h
  ·rename_i y C;split at h
   ·cases h
   ·rename_i D d;cases h;obtain⟨q,i,j⟩:=v d
    simp_all [Xw]
 |swap x y l=>
  intro r h;simp only[Xw]at h;split at h
  ·cases h
  ·rename_i a A;split at h
   ·cases h
   ·rename_i z c;cases h;split at c
    ·cases c
    ·rename_i b B;split at c
     ·cases c
     ·rename_i o t;cases c;exact⟨b::a::o,by grind [Xw],.swap ..⟩
 |trans _ _ e g=>
  intro r h;obtain⟨q,i,j⟩:=e h;obtain⟨w,p,s⟩:=g i;exact⟨w,p,j.trans s⟩
theorem BQ {c}{t}(h:fu c=some t):isTerm t=true:=by
 obtain⟨n,y,z,u,m,a,-,rfl,b,-,-⟩:=ar h
 grind [isTerm,N8]
theorem bu:∀{l} {a},Xw fu l=some a->TY a
 |[],a,h=>by cases h;exact fun _ h=>by cases h
 |c::l,a,h=>by
  simp only[Xw]at h;split at h
  ·cases h
  ·rename_i y e;split at h
   ·cases h
   ·rename_i f d;cases h;intro x b;rcases Zk.1 b with rfl|b
    ·exact BQ e
    ·exact bu d x b
theorem tI {a}(b:lW a)(g:a.Nodup):Tn a=true:=by
 induction a with
 |nil=>rfl
 |cons c a m=>
  obtain⟨e,i⟩:=List.nodup_cons.1 g;simp only[Tn,Zs,ZH,Yq];refine⟨fun d f=> ?_,m (fun x k y l=>b x (Za _ k) y (Za _ l)) i⟩;cases j:kS Nat.beq (UC c) (UC d)with
  |false=>rfl
  |true=>
   exfalso;have :UC c=UC d:=ig (fun x y h=>Zl h) _ _ j;rw[b c (Zc ..) d (Za _ f) this]at e;exact e f
theorem QS:∀{a},Tn a=true->a.Nodup
 |[],_=>List.nodup_nil
 |c::a,h=>by
  simp only[Tn,Zs,ZH,Yq]at h;refine List.nodup_cons.2 ⟨fun b=> ?_,QS h.2⟩
  grind [fj]
theorem nM {b c}(h:Tn b=true)(a:c.Sublist b):Tn c=true:=
 tI (fun x d y e=>Rh h x (a.subset d) y (a.subset e)) (a.nodup (QS h))
theorem jL {b c}(h:Tn b=true)(a:c.Perm b):Tn c=true:=
 tI (fun x d y e=>Rh h x (a.mem_iff.1 d) y (a.mem_iff.1 e)) (a.nodup_iff.2 (QS h))
theorem Af {P:Program}(a8:P.follows .mixedOrders=true){B:Xq}(hB:Kn B)(hE:∀K n,WI P (B.E K n))(hf:FR P 132 AG)(args:X')(H:V')(d:DV)(H':V')(h:Qd args H=some (d,H')):
  CH P 132 args H d H'/\rH P 132:=by
 unfold Qd at h;split at h
 ·rename_i i;split at h
  ·rename_i b hb;obtain⟨hc,h⟩:=Wq h;simp only[Zs]at hc;obtain⟨⟨⟨hm,c3⟩,X⟩,hl⟩:=hc;have X:=Zl X;have hl:b.ch.length<60000:=by
    grind [dB]
   split at h
   ·rename_i e A;obtain⟨b8,h⟩:=X4 h;simp only[Zq]at h;obtain⟨rfl,rfl⟩:=h;have Y:=bu A;have c7:=tQ A;have hF:=(((nl hB.toStd A).and hB.toStd.Xk).and (Ai hB (L:=(e.filter nz).length) (Z2 (List.length_filter_le ..) (by omega))));obtain⟨N,hN⟩:=hF;obtain⟨⟨hs,D⟩,b1⟩:=hN N N (Zf _) (Zf _);generalize b3:B.E N N=E at hs D b1;have F:WI P E:=b3▸hE N N;have key:CH P 132 [.one (.mp 0)] [VT b] (inj (.one (.Xl (TU (e.filter nz))))) ([VT b].map VT)/\rH P 132:=by
     have U:(VT b).ch=b.ch:=rfl;have V:(VT b).mp=true:=hm;have a3:(VT b).fz=true:=rfl;have C:Nat.beq (VT b).ty 1=true:=c3;have O:(VT b).sz=8:=X;have a1:VT (VT b)=VT b:=rfl;generalize c5:VT b=B0 at U V a3 C O a1;let Inv:K'->St->Prop:=fun l s=>∃T v G dn tl j,s=⟨T,B0::⟨false,v,12,pc (j.filter nz),false,75⟩::KF::G⟩/\Xi T 3=some (.one (.own 1 v 0 (j.filter nz).length))/\Xi T 10=some (.one (.ptr 2 0 0 0))/\Xw fu dn=some j/\Xw fu l=some tl/\(j++tl).Perm e
     have W:∀l s,Inv l s->∀p∈Px l,∃s',SH E N AG 2 s p.1=some s'/\Inv p.2 s':=by
      rintro l s ⟨T,v,G,dn,tl,j,rfl,h3,S,a0,w,a⟩ p hp;have b9:=aY l p hp;obtain⟨q,M,b0⟩:=Bi b9.symm w;obtain⟨c,l'⟩:=p;simp only[Xw]at M;split at M
      ·cases M
      ·rename_i t ht;split at M
       ·cases M
       ·rename_i Z R;cases M;obtain⟨n,y,z,u,m,es,rfl,rfl,a9,c6,hz⟩:=ar ht;have a7:(PL.bool n::y::z::u::mo m)∈e:=a.mem_iff.1 (ZS.2 (.inr (b0.mem_iff.2 (Zc ..))));obtain⟨s0,e1,e2⟩:=hs _ a7 n y z u (mo m) rfl;have a6:(j.filter nz).length<100000:=by
         have h1:(j++tl).length=e.length:=a.length_eq
         grind
        have f:(j++[PL.bool n::y::z::u::mo m]++Z).Perm e:=by
         refine List.Perm.trans ?_ a;rw[Zp,ZW];exact(b0.symm).append_left j
        have I:Xw fu (dn++[Xu m++[.p (.bool n),.p y,.p z,.p u]])=some (j++[PL.bool n::y::z::u::mo m]):=fW a0 (by simp only[Xw,ht]);cases b2:nz (PL.bool n::y::z::u::mo m)with
        |true=>
         rw[b2]at e2;obtain⟨T',G',g1,g2,g3⟩:=Dg (K:=N) D a9.1 e1 e2 (B0:=B0) (G:=G) a6 h3 S;refine⟨_,g1,T',v+1,G',_,Z,_,?_,?_,g3,I,R,f⟩
         ·grind
         grind
        |false=>
         rw[b2]at e2;obtain⟨T',G',g1,g2,g3⟩:=GI (K:=N) D a9.1 e1 e2 (B0:=B0) (G:=G) h3 S;refine⟨_,g1,T',v,G',_,Z,_,?_,?_,g3,I,R,f⟩
         ·grind
         grind
     have b5:[B0].map VT=[B0]:=by simp[a1]
     have b6:128*b.ch.length<=lim:=by unfold lim;omega
     have a5:b.ch.length<=9223372036854775807:=by omega
     have M:TR (Xj [B0]) [.one (.mp 0)]=some ⟨La1 b.ch.length,[],[],[0]⟩:=by
      have c1:=Zl C;have hh:Xj [B0] 0=some B0:=rfl;simp only[TR,hh,V,c1,U];rfl
     have h0:XP E N 0 AG.DI ⟨U9 [.one (.mp 0)] 0,[B0].map VT⟩=some (.normal,⟨[(2,La4 .Xp),(0,.one (.mp 0))],[B0]⟩):=by
      rw[b5];simp only[Xo,AG]
     have h1:XP E N 0 AG.DH ⟨[(2,La4 .Xp),(0,.one (.mp 0))],[B0]⟩=some (.normal,⟨[(3,.one (.own 1 0 0 0)),(8,.one (.own 1 0 0 0)),(7,La1 b.ch.length),(6,.one (.mp 0)),(2,La4 .Xp),(0,.one (.mp 0))],[B0,⟨false,0,12,[],false,75⟩]⟩):=by
      simp only[Xo,Xs,AG,mQ,reduceIte,Nat.reduceEqDiff,Nat.reduceAdd,Zw,M,b6,a5]
     have b4:Inv b.ch ⟨(10,.one (.ptr 2 0 0 0))::(9,.one (.mp 0))::[(3,.one (.own 1 0 0 0)),(8,.one (.own 1 0 0 0)),(7,La1 b.ch.length),(6,.one (.mp 0)),(2,La4 .Xp),(0,.one (.mp 0))],[B0,⟨false,0,12,[],false,75⟩]++[⟨true,0,0,[],true,2⟩]⟩:=
      ⟨_,0,[],[],e,[],rfl,rfl,rfl,rfl,A,.refl _⟩
     obtain⟨ss,a2,k⟩:=kL Inv W b.ch.length b.ch _ rfl b4;refine AF E F (zC F a8) N hf [.one (.mp 0)] [B0] (.one (.Xl (TU (e.filter nz)))) (ss:=ss) (id:=0) (b:=B0) (by simp[AG]) h0 h1 rfl rfl V a3 C O ?_ fun s c0=> ?_
     ·rw[U];exact a2
     ·obtain⟨T,v,G,dn,tl,j,rfl,h3,S,a0,w,a⟩:=k s c0;cases w;rw[ZJ]at a;have g:(j.filter nz).Perm (e.filter nz):=a.filter nz;have J:Tn (e.filter nz)=true:=nM b8 List.filter_sublist;have Q:TY (e.filter nz):=fun c hc=>Y c ((Yh.1 hc).1)
      have hu:=qn Q (Rh J) g;generalize j.filter nz=o at g h3 hu;have r:=b1 (B0::⟨false,v,12,pc o,false,75⟩::KF::G) 1 v 75 o g.length_eq rfl (fun c hc=>Q c (g.mem_iff.1 hc)) (jL J g);rw[hu]at r;have b7:o.length=(TU (e.filter nz)).length:=by rw[g.length_eq,(UJ _).length_eq]
      have a4:=fun h=>Vb 5 h (TU (e.filter nz))
      have c2:=WT (TU (e.filter nz)) (Zf _);rw[b7]at h3 r;unfold v7;simp only[Xo,Vv,Xs,VD,AG,reduceIte,Nat.reduceEqDiff,h3,D,X3,r,WB,Zf,c2,a4]
    refine⟨?_,key.2⟩;refine Ia key.1 hb hm ?_;have k:∀(l:K') (e:Z'),Xw fu l=some e->∀c∈l,∀d∈c,∃l,d=DL.p l:=by
     intro l;induction l with
     |nil=>grind
     |cons c l ih=>
      intro e h x hx d hd;simp only[Xw]at h;split at h
      ·cases h
      ·rename_i y hy;split at h
       ·cases h
       ·rename_i ys c4;rcases Zk.1 hx with rfl|hx
        ·obtain⟨n,y,z,u,m,es,rfl,-,-,-,-⟩:=ar hy;rcases ZS.1 hd with hd|hd
         ·simp only[Xu,ZM]at hd
          grind
         grind
        ·exact ih ys c4 x hx d hd
    exact k _ _ A
   ·cases h
  ·cases h
 ·cases h
def bw (m:P')(n y d u:PL):Y':=Xu m++[.p n,.p y,.p d,.p u]
def L5 (c:Y')(t:Qm):Prop:=∃n y d u,c=bw t.2 (.bool n) y (.bool d) u/\Rw [.bool n,y,.bool d,u] t.1/\XA t.2
abbrev OK (ch:K')(ts:I'):Prop:=XE L5 ch ts
def TG (z:Rat)(m:P'):I'->I'
 |[]=>[(z,m)]
 |t::ts=>if m=t.2 then(t.1+z,m)::ts else t::TG z m ts
theorem fv {m}(a:m.length=8)(n y d u):(bw m n y d u).take 8=Xu m:=by grind [bw,Xc]
theorem BR {m}(a:m.length=8)(n y d u):(bw m n y d u).drop 8=[.p n,.p y,.p d,.p u]:=by grind [bw,Xc]
theorem BK {m}(j:m.length=8){ch}{b}(h:OK ch b)(e:∀t∈b,m≠t.2)(z):∀k,SP .i64 8 (Xu m) ch k=some none/\TG z m b=b++[(z,m)]:=by
 induction h with
 |nil=>intro k;exact⟨rfl,rfl⟩
 |@cons c t ch b i h o=>
  intro k;obtain⟨n,y,d,u,rfl,-,a⟩:=i;have f:=e t (Zc ..);obtain⟨g,p⟩:=o (fun t l=>e t (Za _ l)) (k+1);refine⟨?_,?_⟩
  ·simp only[SP,fv a.1,UA m t.2 (by rw[j,a.1]),decide_eq_false f,g]
  grind [TG]
theorem BJ {m}(r:m.length=8){ch}{a}(h:OK ch a)(x:∃t∈a,m=t.2)(z):∃i c t,ch[i]? =some c/\a[i]? =some t/\t.2=m/\L5 c t/\(∀k,SP .i64 8 (Xu m) ch k=some (some (k+i,c)))/\TG z m a=a.set i (t.1+z,m):=by
 induction h with
 |nil=>grind
 |@cons c t ch a g h s=>
  have f:=g;obtain⟨n,y,d,u,rfl,-,b⟩:=f;by_cases e:m=t.2
  ·refine⟨0,_,t,rfl,rfl,e.symm,g,fun k=> ?_,?_⟩
   ·grind [SP,fv,UA]
   grind [TG]
  ·obtain⟨i,c,v,j,l,o,p,q,w⟩:=s (by
    grind)
   refine⟨i+1,c,v,by simpa using j,by simpa using l,o,p,fun k=> ?_,?_⟩
   ·simp only[SP,fv b.1,UA m t.2 (by rw[r,b.1]),decide_eq_false e,q (k+1)]
    grind
   grind [TG]
abbrev Tq (ch:K'):Xx:=⟨false,0,8,ch,true,1⟩
theorem tW {m}(c:m.length=8){ch}(a:SP .i64 8 (Xu m) ch 0=some none)(X):Tl 8 .i64 true [.bool false,.Xp,.bool false,.Xp] true (Xj (Tq ch::X)) [.one (.mp 0),.agg (Xu m)]=
  some ⟨.Wd [.agg [.p (.bool false),.p .Xp,.p (.bool false),.p .Xp],La4 (.bool false)],[],[],[0]⟩:=by
 have b:Wl .i64 (Xu m) (Xu m)=some true:=by grind [UA]
 have h0:Xj (Tq ch::X) 0=some (Tq ch):=rfl;simp only[Tl,h0,bn,a,b,Xc,c];rfl
theorem tV {m}(a:m.length=8){ch}{i}{n y d u}(b:SP .i64 8 (Xu m) ch 0=some (some (i,bw m n y d u)))(X):Tl 8 .i64 true [.bool false,.Xp,.bool false,.Xp] true (Xj (Tq ch::X)) [.one (.mp 0),.agg (Xu m)]=
  some ⟨.Wd [.agg [.p n,.p y,.p d,.p u],La4 (.bool true)],[],[],[0]⟩:=by
 have c:Wl .i64 (Xu m) (Xu m)=some true:=by grind [UA]
 have h0:Xj (Tq ch::X) 0=some (Tq ch):=rfl;simp only[Tl,h0,bn,b,c,Xc,a,xw,BR a];rfl
theorem rS {m}(c:m.length=8){ch}(a:SP .i64 8 (Xu m) ch 0=some none)(n y d u)(X):VK 8 .i64 true 4 (Xj (Tq ch::X)) [.one (.mp 0),.agg (Xu m),.agg [.p n,.p y,.p d,.p u]]=
  some ⟨.Wd [],[],[(0,Tq (ch++[bw m n y d u]))],[0]⟩:=by
 have b:Wl .i64 (Xu m) (Xu m)=some true:=by grind [UA]
 have h0:Xj (Tq ch::X) 0=some (Tq ch):=rfl;simp only[VK,h0,iG,a,b,Xc,c,DV.cells];rfl
theorem rQ {m}(e:m.length=8){ch}{i}{c}(a:SP .i64 8 (Xu m) ch 0=some (some (i,c)))(n y d u)(X):VK 8 .i64 true 4 (Xj (Tq ch::X)) [.one (.mp 0),.agg (Xu m),.agg [.p n,.p y,.p d,.p u]]=
  some ⟨.Wd [],[],[(0,Tq (ch.set i (bw m n y d u)))],[0]⟩:=by
 have b:Wl .i64 (Xu m) (Xu m)=some true:=by grind [UA]
 have h0:Xj (Tq ch::X) 0=some (Tq ch):=rfl;simp only[VK,h0,iG,a,b,Xc,e,DV.cells];rfl
theorem uU {E}{K}(e:E.mode=md){n y d u}{m}(a:m.length=8){ch}(b:SP .i64 8 (Xu m) ch 0=some none)(G):
  ∃c,VN E K x131 [.one (.mp 0),.agg [.p n,.p y,.p d,.p u],.agg (Xu m)] (Tq ch::G)=some (.Wd [],Tq (ch++[bw m n y d u])::(G++c)):=by
 have f:(Xu m).take 8=Xu m:=Ze (by rw[Xc];omega);apply Exists.intro;simp only[Xo,Vv,rq,Xs,VD,reduceIte,Nat.reduceEqDiff,Nat.reduceLeDiff,Nat.reduceAdd,x131,a,Xc,f,tW a b,rS a b,Zp];rfl
theorem uT {E}{K}(b:E.mode=md){n y d u g l c j h o e k}{m}(a:m.length=8){ch}{i}(f:SP .i64 8 (Xu m) ch 0=some (some (i,bw m g l c j)))
  (r:E.pure 157 [.agg [g,l,c,j],.agg [n,y,d,u]]=some (.agg [h,o,e,k])) (G):
  ∃q,VN E K x131 [.one (.mp 0),.agg [.p n,.p y,.p d,.p u],.agg (Xu m)] (Tq ch::G)=some (.Wd [],Tq (ch.set i (bw m h o e k))::(G++q)):=by
 have s:(Xu m).take 8=Xu m:=Ze (by rw[Xc];omega);apply Exists.intro;simp only[Xo,Vv,rq,Xs,VD,reduceIte,Nat.reduceEqDiff,Nat.reduceLeDiff,Nat.reduceAdd,x131,b,X3,a,Xc,s,tV a f,rQ a f,r,Zp];rfl
theorem OK.set {ch}{a}(h:OK ch a){c}{t}(e:L5 c t):∀i,OK (ch.set i c) (a.set i t):=by
 induction h with
 |nil=>intro i;exact .nil
 |cons b d f=>
  intro i;cases i with
  |zero=>exact .cons e d
  |succ i=>exact .cons b (f i)
theorem OK.snoc {ch}{a}(h:OK ch a){c}{t}(b:L5 c t):OK (ch++[c]) (a++[t]):=XE.append h (.cons b .nil)
def II (E:Xa)(c:N')(m:P')(ch ch':K'):Prop:=
 ∀G,∃G',E.heap 131 [.one (.mp 0),.agg (c.map .p),.agg (Xu m)] (Tq ch::G)=some (.Wd [],Tq ch'::(G++G'))
theorem uV {B}(f:Std B){ch}{l}(h:OK ch l){c}{z}(v:Rw c z){m}(a:XA m)(W:Sq z)(U:∀t∈l,Sq t.1):
  ∃b,OK b (TG z m l)/\XT B fun E _=>II E c m ch b:=by
 obtain⟨n,y,d,u,rfl⟩:=v.len;by_cases C:∃t∈l,m=t.2
 ·obtain⟨i,c,t,h1,I,J,L,O,r⟩:=BJ a.1 h C z;obtain⟨n2,y2,Z,u2,rfl,Y,q3⟩:=L;subst J;have o:=O 0;rw[Yb]at o;obtain⟨e,R,j⟩:=jt f Y v (U t (Zh I)) W;obtain⟨D,H,A,F,rfl⟩:=j.len;refine⟨ch.set i (bw t.2 (.bool D) H (.bool A) F),?_,?_⟩
  ·rw[r];exact OK.set h (t:=(t.1+z,t.2)) ⟨D,H,A,F,rfl,j,a⟩ i
  ·obtain⟨N,Q⟩:=R.Xk;obtain⟨M,s⟩:=f.Xk;refine⟨max N M+1,fun K k P S G=> ?_⟩;rcases k with _|k;omega;obtain⟨q,g⟩:=uT (K:=K) (s K k (by omega) (by omega)) a.1 o (Q K k (by omega) (by omega)) G;refine⟨q,?_⟩;show(match B.X 131 with
    |some x=>VN (B.E K k) K x [.one (.mp 0),.agg [.p (.bool n),.p y,.p (.bool d),.p u],.agg (Xu t.2)] (Tq ch::G)
    |none=>(B.E K k).heap 131 [.one (.mp 0),.agg [.p (.bool n),.p y,.p (.bool d),.p u],.agg (Xu t.2)] (Tq ch::G))=_
   rw[f.Wa 131 x131 rfl];exact g
 ·have T:∀t∈l,m≠t.2:=fun t V e=>C ⟨t,V,e⟩
  obtain⟨o,r⟩:=BK a.1 h T z 0;refine⟨ch++[bw m (.bool n) y (.bool d) u],?_,?_⟩
  ·rw[r];exact OK.snoc h (t:=(z,m)) ⟨n,y,d,u,rfl,v,a⟩
  ·obtain⟨M,s⟩:=f.Xk;refine⟨M+1,fun K k P S G=> ?_⟩;rcases k with _|k;omega;obtain⟨q,g⟩:=uU (K:=K) (n:=.bool n) (y:=y) (d:=.bool d) (u:=u) (s K k (by omega) (by omega)) a.1 o G;refine⟨q,?_⟩;show(match B.X 131 with
    |some x=>VN (B.E K k) K x [.one (.mp 0),.agg [.p (.bool n),.p y,.p (.bool d),.p u],.agg (Xu m)] (Tq ch::G)
    |none=>(B.E K k).heap 131 [.one (.mp 0),.agg [.p (.bool n),.p y,.p (.bool d),.p u],.agg (Xu m)] (Tq ch::G))=_
   rw[f.Wa 131 x131 rfl];exact g
inductive oU (E:Xa)(c:N')(m:P'):Z'->K'->K'->Prop
 |nil {ch:K'}:oU E c m [] ch ch
 |cons {x y z u r1 r2 r3 r4:PL} {k:P'} {qs:Z'} {ch ch1 ch2:K'} (hk:XA k) (hs:XA (Xg m k)) (h1:E.pure 130 [.agg (mo m),.agg (mo k)]=some (.Wd [.agg (mo (Xg m k)),.one (La0 0)]))
   (h2:E.pure 64 [.agg c,.agg [x,y,z,u]]=some (.agg [r1,r2,r3,r4])) (h3:II E [r1,r2,r3,r4] (Xg m k) ch ch1) (h:oU E c m qs ch1 ch2):oU E c m ((x::y::z::u::mo k)::qs) ch ch2
inductive lS (E:Xa)(qs:Z'):Z'->K'->K'->Prop
 |nil {ch:K'}:lS E qs [] ch ch
 |cons {x y z u:PL} {m:P'} {ps:Z'} {ch ch1 ch2:K'} (hm:XA m) (h1:oU E [x,y,z,u] m qs ch ch1) (h:lS E qs ps ch1 ch2):lS E qs ((x::y::z::u::mo m)::ps) ch ch2
theorem Ed {E}{K}{lp f}(s:E.mode=md){a}(sl:Sl f a)(hl:a.length<1000000){x y z u}{m}(r:m.length=8)(j){o1 o2}:∀rest ch d,oU E [x,y,z,u] m rest ch d->
  ∀i k G,G[j]? =some ⟨false,0,12,[.p x::.p y::.p z::.p u::Xu m],false,75⟩->a.drop i=rest->i+rest.length=a.length->rest.length<k->
  ∃c g,Xb E K 0 [1,6,8,14,15,16,20,21,22] x78_1 k ⟨[(1,La4 f),(6,.one (.mp 0)),(8,.one (.ptr (j+1) 0 0 0)),(14,La4 lp),(15,o1),(16,o2),(20,La4 f),(21,La1 a.length),(22,La1 i)],Tq ch::G⟩=
    some (.exit 2,⟨c,Tq d::g⟩)/\Xi c 1=some (La4 f)/\Xi c 6=some (.one (.mp 0))/\Xi c 14=some (La4 lp)/\Xi c 15=some o1/\Xi c 16=some o2:=by
 intro rest ch d h;induction h with
 |@nil ch=>
  intro i k G C B l n;rcases k with _|k;omega;have e:¬i<a.length:=by simp at l;omega
  apply Cn
  ·rw[Xb];simp only[Xo,Xs,reduceIte,Nat.reduceEqDiff,x78_1,e];rfl
  ·simp only[Xo,reduceIte,Nat.reduceEqDiff,and_self]
 |@cons x2 F H D r1 r2 r3 r4 b qs ch M N n Y T U V h Z=>
  intro i k G C B l q;rcases k with _|k;omega;simp only[Zj]at l q;have e:i<a.length:=by omega
  obtain⟨S,O⟩:=Xh B;have iq:=fun(W:HF) (kd:IntKind)=>sl.idx (h:=W) (k:=kd) (sz:=12) S (by simp[XI,n.1])
  have P:Xd .i64 (.ofNat (i+1))=.ofNat (i+1):=wrap_i64 (by omega);have o:=n.1;have t:=Y.1;have t1:(Xu m).take 8=Xu m:=Ze (by rw[Xc];omega);have t2:(Xu b).take 8=Xu b:=Ze (by rw[Xc];omega);have t3:(Xu (Xg m b)).take 8=Xu (Xg m b):=Ze (by rw[Xc];omega);have d1:(Xu m).drop 8=[]:=Zo (by rw[Xc];omega);have d2:(Xu b).drop 8=[]:=Zo (by rw[Xc];omega);have d3:(Xu (Xg m b)).drop 8=[]:=Zo (by rw[Xc];omega);have X:j<G.length:=(Zg.1 C).1;have A:∀L:V',(G++L)[j]? =some ⟨false,0,12,[.p x::.p y::.p z::.p u::Xu m],false,75⟩:=fun L=>by grind
  obtain⟨I,w⟩:=V (G++[⟨false,0,12,[.p x2::.p F::.p H::.p D::Xu b],false,75⟩,⟨false,0,8,[Xu (Xg m b)],false,73⟩]);simp only[Zt,ZF]at w;obtain⟨c,g,Q,R⟩:=Z (i+1) k (G++([⟨false,0,12,[.p x2::.p F::.p H::.p D::Xu b],false,75⟩,⟨false,0,8,[Xu (Xg m b)],false,73⟩]++I)) (A _) O (by omega) (by omega);refine⟨c,g,?_,R⟩;have J:SX [0,6,5,2,4,1,3] 7=true:=rfl;have n1:¬G.length+2+1<=j+1:=by omega
  have n2:¬G.length+2+1<=G.length+1:=by omega
  have n3:¬G.length+2+1<=G.length+1+1:=by omega
  rw[Xb];simp only[Xo,Vv,rq,ite_self,J,n1,n2,n3,Xs,VD,reduceIte,Nat.reduceEqDiff,Nat.reduceLeDiff,Nat.reduceAdd,x78_1,e,iq,A,Wj,Xc,o,t,r,t1,t2,t3,Wc,Wg,s,X3,T,U,w,P];rw[Zp];exact Q
theorem Bc {E}{K}{lp v}(q:E.mode=md){a e}(W:Sl lp a)(w:Sl v e)(hl:a.length<1000000)(o:e.length<1000000)(P:e.length<K):∀rest ch b,lS E e rest ch b->
  ∀i k G,a.drop i=rest->i+rest.length=a.length->rest.length<k->
  ∃f g,Xb E K 0 [1,6,14,15,16] x78_2 k ⟨[(1,La4 v),(6,.one (.mp 0)),(14,La4 lp),(15,La1 a.length),(16,La1 i)],Tq ch::G⟩=
    some (.exit 0,⟨f,Tq b::g⟩)/\Xi f 6=some (.one (.mp 0)):=by
 intro rest ch b h;induction h with
 |@nil ch=>
  intro i k G s l hk;rcases k with _|k;omega;have c:¬i<a.length:=by simp at l;omega
  apply Cn
  ·rw[Xb];simp only[Xo,Xs,reduceIte,Nat.reduceEqDiff,x78_2,c];rfl
  ·simp only[Xo,reduceIte,Nat.reduceEqDiff]
 |@cons x y z u m ps ch j B t O h R=>
  intro i k G s l n;rcases k with _|k;omega;simp only[Zj]at l n;have c:i<a.length:=by omega
  obtain⟨N,C⟩:=Xh s;have S:=fun(Q:HF) (T:IntKind)=>W.idx (h:=Q) (k:=T) (sz:=12) N (by simp[XI,t.1])
  have D:Xd .i64 (.ofNat (i+1))=.ofNat (i+1):=wrap_i64 (by omega);have d:=t.1;have X:(Xu m).take 8=Xu m:=Ze (by rw[Xc];omega);have Z:(Xu m).drop 8=[]:=Zo (by rw[Xc];omega);obtain⟨Y,A,F,H,I,J,L,M⟩:=Ed (K:=K) (lp:=lp) q w o d G.length (o1:=La1 a.length) (o2:=La1 i) e ch j O 0 K (G++[⟨false,0,12,[.p x::.p y::.p z::.p u::Xu m],false,75⟩]) (by simp) (by simp) (by simp) P;obtain⟨f,g,U,V⟩:=R (i+1) k A C (by omega) (by omega);refine⟨f,g,?_,V⟩;rw[Xb];simp only[Xo,rq,Xs,VD,reduceIte,Nat.reduceEqDiff,Nat.reduceLeDiff,Nat.reduceAdd,x78_2,c,S,Wj,Xc,d,X,w.len,F,H,I,J,L,M,D];exact U
structure q7 (B:Xq):Prop extends Std B where
 sorted:∀args H r,Qd args H=some r->B.E0.heap 132 args H=some r
theorem oQ (z)(m)(b:P'->Rat):∀a,XZ (TG z m a) b=XZ a b+z*b m
 |[]=>by grind [TG,XZ]
 |t::a=>by
  unfold TG;split
  ·grind [XZ]
  ·simp only[XZ,oQ z m b a];grind
theorem lJ (z)(m):∀a,((TG z m a).map (·.2))=a.map (·.2)\/(m∉a.map (·.2)/\(TG z m a).map (·.2)=a.map (·.2)++[m])
 |[]=>.inr ⟨by simp,rfl⟩
 |t::a=>by
  unfold TG;split
  ·grind
  ·rename_i e;rcases lJ z m a with h|⟨h1,h2⟩
   ·exact .inl (by simp[h])
   grind
theorem vk {z}{m}{a}(h:(a.map (·.2)).Nodup):((TG z m a).map (·.2)).Nodup:=by grind [lJ]
def Fr (D c:Nat)(x:Rat):Prop:=∃z:Int,x*(D:Rat)=(z:Rat)/\z.natAbs<=c
def W8 (D c:Nat)(ts:I'):Prop:=∀t∈ts,Fr D c t.1
theorem Fr.add {D c b}{x y}(h:Fr D c x)(k:Fr D b y):Fr D (c+b) (x+y):=by
 obtain⟨z,e,f⟩:=h;obtain⟨a,d,g⟩:=k;exact⟨z+a,by grind,by omega⟩
theorem Fr.mul {D a c b}{x y}(h:Fr D c x)(k:Fr a b y):Fr (D*a) (c*b) (x*y):=by
 obtain⟨z,e,g⟩:=h;obtain⟨d,f,i⟩:=k;refine⟨z*d,?_,by simp_all [Yp,ZA]⟩
 grind
theorem Fr.mono {D c b}{x}(h:Fr D c x)(k:c<=b):Fr D b x:=by
 obtain⟨z,e,a⟩:=h;exact⟨z,e,by omega⟩
theorem lL {z}{m}{D c b}(e:Fr D b z):∀{d},W8 D c d->W8 D (c+b) (TG z m d)
 |[],_=>by intro t a;simp[TG]at a;subst a;exact e.mono (by omega)
 |u::d,h=>by
  have f:=h u (Zc ..);have g:W8 D c d:=fun t a=>h t (Za _ a)
  unfold TG;split
  ·intro t a;rcases Zk.1 a with rfl|a
   ·exact f.add e
   ·exact(g t a).mono (by omega)
  ·intro t a;rcases Zk.1 a with rfl|a
   ·exact f.mono (by omega)
   ·exact lL e g t a
theorem oT (z)(m):∀a:I',(TG z m a).length<=a.length+1
 |[]=>by simp[TG]
 |t::a=>by
  unfold TG;split
  ·simp
  ·have:=oT z m a;simp;omega
def zh (z:Rat)(m:P'):I'->I'->I'
 |[],acc=>acc
 |u::us,acc=>zh z m us (TG (z*u.1) (Xg m u.2) acc)
def mz (us:I'):I'->I'->I'
 |[],acc=>acc
 |t::ts,acc=>mz us ts (zh t.1 t.2 us acc)
theorem zf (z)(m)(c:P'->Rat):∀b a,XZ (zh z m b a) c=XZ a c+z*XZ b fun k=>c (Xg m k)
 |[],a=>by grind [zh,XZ]
 |u::b,a=>by
  simp only[zh,zf z m c b,oQ,XZ]
  grind
theorem tD (d)(c:P'->Rat):∀b a,XZ (mz d b a) c=XZ a c+XZ b fun m=>XZ d fun k=>c (Xg m k)
 |[],a=>by grind [mz,XZ]
 |t::b,a=>by
  simp only[mz,tD d c b,zf,XZ];grind
theorem nX {z}{m}:∀{us a},(a.map (·.2)).Nodup->((zh z m us a).map (·.2)).Nodup
 |[],_,h=>h
 |_::us,_,h=>nX (us:=us) (vk h)
theorem jG {b}:∀{ts a},(a.map (·.2)).Nodup->((mz b ts a).map (·.2)).Nodup
 |[],_,h=>h
 |_::ts,_,h=>jG (ts:=ts) (nX h)
theorem EA {z}{m}{D e a b}(f:Fr D a z):∀{us d} {c},W8 e b us->W8 (D*e) c d->W8 (D*e) (c+us.length*(a*b)) (zh z m us d)
 |[],_,_,_,h=>by simpa[zh]using h
 |u::us,d,c,hb,h=>by
  have:=EA (us:=us) (m:=m) f (fun t g=>hb t (Za _ g)) (lL (m:=Xg m u.2) (f.mul (hb u (Zc ..))) h)
  grind [zh]
theorem zg {z}{m}:∀b a,(zh z m b a).length<=a.length+b.length
 |[],_=>by simp[zh]
 |u::b,a=>by
  have c:=zg (z:=z) (m:=m) b (TG (z*u.1) (Xg m u.2) a)
  grind [oT,zh]
theorem AY {c d}(h:c.Perm d)(e:P'->Rat):XZ c e=XZ d e:=by
 induction h with
 |nil=>rfl
 |cons t _ f=>simp only[XZ,f]
 |swap t u l=>simp only[XZ];grind
 |trans _ _ a b=>rw[a,b]
theorem O9 (b:P'->Rat):∀a:I',XZ (a.filter fun t=>t.1 !=0) b=XZ a b
 |[]=>rfl
 |t::a=>by
  by_cases h:t.1=0
  ·rw[List.filter_cons_of_neg (by simp[h])];simp only[XZ,h,O9 b a];grind
  ·rw[List.filter_cons_of_pos (by simp[h])];simp only[XZ,O9 b a]
theorem Ce {n o:Type}{R:n->o->Prop}{m d}(s:d.Perm m):∀{b:List o},XE R m b->∃a,XE R d a/\a.Perm b:=by
 induction s with
 |nil=>intro b h;exact⟨b,h,.refl _⟩
 |cons x _ t=>
  intro b h;cases h with |cons i c=> ?_
  obtain⟨a,f,g⟩:=t c;exact⟨_,.cons i f,g.cons _⟩
 |swap x y l=>
  intro b h;cases h with |cons i c=> ?_
  cases c with |cons c r=> ?_
  exact⟨_,.cons c (.cons i r),.swap ..⟩
 |trans _ _ j k=>
  intro b h;obtain⟨a,f,g⟩:=k h;obtain⟨e,p,q⟩:=j f;exact⟨e,p,q.trans g⟩
theorem vf {d e:Type}{R:d->e->Prop}{p:d->Bool}{q:e->Bool}(a:∀x y,R x y->p x=q y){b}{c}(h:XE R b c):XE R (b.filter p) (c.filter q):=by
 induction h with
 |nil=>exact .nil
 |@cons x y b c f j i=>
  have:=a _ _ f;cases g:p x with
  |true=>rw[List.filter_cons_of_pos g,List.filter_cons_of_pos (this▸g)];exact .cons f i
  |false=>grind
theorem JH {c}{t}(h:Vn c t):nz c=(t.1 !=0):=by
 obtain⟨n,a,d,b,rfl,⟨l,i,k,j,f,⟨q,e1,g⟩,-⟩,-⟩:=h;simp only[ZG,PL.bool.injEq,and_true]at f;obtain⟨rfl,rfl,rfl,rfl⟩:=f;simp only[ZG,PL.bool.injEq,and_true]at e1;obtain⟨-,rfl⟩:=e1;have m:t.1=0↔t.1.num.natAbs=0:=by simp_all [Int.natAbs_eq_zero]
 rcases g with e|⟨e,rfl⟩
 ·subst e;by_cases h0:t.1=0
  ·simp[h0,UI,Vc,nz]
  grind [UZ,UI,nz]
 grind [Xe,UI,nz]
theorem E9 {c}{t}(h:L5 c t):∃e,fu c=some e/\Vn e t/\UC e=t.2:=by
 obtain⟨n,y,d,u,rfl,a,b⟩:=h;have o:=o5 (mo t.2++[PL.bool n,y,.bool d,u]);have q:bw t.2 (.bool n) y (.bool d) u=(mo t.2++[PL.bool n,y,.bool d,u]).map DL.p:=by simp[bw,Xu,mo]
 have w:(mo t.2++[PL.bool n,y,.bool d,u]).take 8=mo t.2:=by rw[List.take_append_of_le_length (by rw[XI];have:=b.1;omega),Ze (by rw[XI];have:=b.1;omega)]
 have l:(mo t.2++[PL.bool n,y,.bool d,u]).drop 8=[.bool n,y,.bool d,u]:=by
  grind
 have r:isTerm (PL.bool n::y::.bool d::u::mo t.2)=true:=by grind [isTerm,N8]
 refine⟨.bool n::y::.bool d::u::mo t.2,?_,⟨n,y,d,u,rfl,a,b⟩,Bf b⟩;have s:y=.Xp\/∃g,y=.Xl g:=by
  obtain⟨v,i,k,j,f,⟨m,e,a⟩,-⟩:=a;simp only[ZG,and_true]at f e;obtain⟨-,rfl,-,-⟩:=f;obtain⟨-,rfl⟩:=e;rcases a with e|⟨-,e⟩
  ·exact .inr ⟨_,e⟩
  ·exact .inl e
 grind [fu]
theorem Fa {ch}{b}(h:OK ch b):∃a,Xw fu ch=some a/\XE (fun c t=>Vn c t/\UC c=t.2) a b:=by
 induction h with
 |nil=>exact⟨[],rfl,.nil⟩
 |cons g _ l=>
  obtain⟨a,d,f⟩:=l;obtain⟨e,i,j,k⟩:=E9 g;exact⟨e::a,by simp only[Xw,i,d],.cons ⟨j,k⟩ f⟩
theorem Fq {b}{a}(h:XE (fun c t=>Vn c t/\UC c=t.2) b a)(j:(a.map (·.2)).Nodup):Tn b=true:=by
 induction h with
 |nil=>rfl
 |@cons c t b a p g n=>
  simp only[Zt,List.nodup_cons]at j;simp only[Tn,Zs,ZH,Yq];refine⟨fun d k=> ?_,n j.2⟩;cases m:kS Nat.beq (UC c) (UC d)with
  |false=>rfl
  |true=>
   exfalso;have e:UC c=UC d:=ig (fun x y h=>Zl h) _ _ m;obtain⟨i,q⟩:=Zv.1 k;have f:i<a.length:=by rw[<-g.length];grind
   obtain⟨o,l,-,r⟩:=g.get i _ (Zd f)
   grind
theorem pz {ch}{k}(h:OK ch k)(O:(k.map (·.2)).Nodup)(V:k.length<60000):
  ∃J l,(∀G,Qd [.one (.mp 0)] (Tq ch::G)=some (La4 (.Xl J),(Tq ch::G).map VT))/\X6 J l/\Ph l/\l.Perm (k.filter fun t=>t.1 !=0):=by
 obtain⟨j,F,w⟩:=Fa h;have m:=Fq w O;have C:=bu F;have N:j.length=k.length:=w.length;have I:ch.length=k.length:=h.length;have L:=vf (p:=nz) (q:=fun t=>t.1 !=0) (fun c t z=>JH z.1) w;obtain⟨l,v,E⟩:=Ce (UJ (j.filter nz)) L;have A:Nat.blt ch.length 60000=true:=aP (by omega);have n:=nM m (List.filter_sublist (p:=nz));have g:TY (j.filter nz):=fun c z=>C c (Yh.1 z).1
 have o:=R7 g;have a:=jL n (UJ _);have b:=fZ g;refine⟨TU (j.filter nz),l,fun G=> ?_,v.imp fun _ _ h=>h.1,?_,E⟩
 ·have h0:(Tq ch::G)[0]? =some (Tq ch):=rfl;simp only[Qd,h0,Yw,A,F,m,Bool.and_self,cond_true];rfl
 ·refine⟨fun t X=>by grind,?_⟩;have f:(TU (j.filter nz)).Pairwise fun x y=>UC x≠UC y:=by
   have H:=QS a;have K:=Rh a;rw[List.nodup_iff_pairwise_ne]at H;exact H.imp_of_mem fun r s B e=>B (K _ r _ s e)
  have d:(TU (j.filter nz)).Pairwise fun x y=>WS (UC x) (UC y)=.ofNat 1:=by
   refine(o.and f).imp_of_mem fun{x y} r s ⟨T,U⟩=> ?_
   rcases VZ (UC x) (UC y)with h|h|h
   ·exact h
   ·grind [Qc]
   ·exfalso;obtain⟨_,_,_,_,-,Y,-⟩:=Wt (b x r);obtain⟨_,_,_,_,-,Z,-⟩:=Wt (b y s)
    grind [Rn]
  clear o f E a b;generalize TU (j.filter nz)=S at v d;induction v with
  |nil=>exact .nil
  |@cons x t S l r D Q=>
   obtain⟨p1,R⟩:=Zu.1 d;refine Zu.2 ⟨fun u P=> ?_,Q R⟩;obtain⟨i,M⟩:=Zv.1 P;obtain⟨y,s,-,W⟩:=D.get i u M
   grind
theorem Fr.sq {D c C k}{x}(h:Fr D c x)(g:k<200000000000)(f:0<D)(a:D<=C)(b:c<=C)(d:C<4294967296^k):Sq x:=by
 obtain⟨z,e,i⟩:=h
 grind [Sq.le]
structure xR (D D' a b C k:Nat):Prop where
 k7:k<200000000000
 d1:0<D
 d2:0<D'
 dd:D*D'<=C
 aa:a<=C
 bb:b<=C
 C:C<4294967296^k
theorem Bd {B}(I:Std B){D l a b C k}(f:xR D l a b C k){c}{z}(hc:Rw c z){m}(L:XA m)(Q:Fr D a z):∀{G} {j},X6 G j->W8 l b j->(∀u∈j,XA (Xg m u.2))->
  ∀{ch} {g} {d},OK ch g->W8 (D*l) d g->d+j.length*(a*b)<=C->∃n,OK n (zh z m j g)/\XT B fun E _=>oU E c m G ch n:=by
 intro G j h;have hD:D<=C:=Zy (Z1 _ f.d2) f.dd;have J:l<=C:=Zy (Yz _ f.d1) f.dd;have o:0<D*l:=ZV f.d1 f.d2;induction h with
 |nil=>intro _ _ ch g d M _ _;exact⟨ch,M,XT.of fun _ _=>.nil⟩
 |@cons q u G j hu h ih=>
  intro N P ch g d M O s;obtain⟨x,y,w,v,rfl,p1,R⟩:=hu;have p:=N u (Zc ..);have i:=P u (Zc ..);simp only[Zj,ZX,Yf]at s;have V:=fU I L R i;obtain⟨e,W,r⟩:=OY I hc p1 (Q.sq f.k7 f.d1 hD f.aa f.C) (p.sq f.k7 f.d2 J f.bb f.C);have F:=Q.mul p;obtain⟨S,X,Y⟩:=uV I M r i (F.sq f.k7 o f.dd (by omega) f.C) fun t A=>(O t A).sq f.k7 o f.dd (by omega) f.C
  obtain⟨H,Z,h4⟩:=ih (fun t A=>N t (Za _ A)) (fun t A=>P t (Za _ A)) X (lL (m:=Xg m u.2) F O) (by omega);obtain⟨r1,r2,r3,r4,rfl,-,-⟩:=r;exact⟨H,Z,(h4.and (Y.and (V.Xk.and W.Xk))).mono fun E K ⟨e1,e2,T,U⟩=>.cons R i T U e2 e1⟩
theorem wF {B}(N:Std B){D n a b C k}(O:xR D n a b C k){G}{j}(P:X6 G j)(s:W8 n b j):∀{l} {c},X6 l c->W8 D a c->(∀t∈c,∀u∈j,XA (Xg t.2 u.2))->
  ∀{ch} {acc} {d},OK ch acc->W8 (D*n) d acc->d+c.length*(j.length*(a*b))<=C->
  ∃e,OK e (mz j c acc)/\XT B fun E _=>lS E G l ch e:=by
 intro l c h;induction h with
 |nil=>intro _ _ ch acc d q _ _;exact⟨ch,q,XT.of fun _ _=>.nil⟩
 |@cons p t l c g h Q=>
  intro r A ch acc d q z f;obtain⟨x,y,w,v,rfl,R,F⟩:=g;have i:=r t (Zc ..);simp only[Zj,ZX,Yf]at f⊢;obtain⟨H,I,J⟩:=Bd N O R F i P s (A t (Zc ..)) q z (by omega);obtain⟨o,L,M⟩:=Q (fun t g=>r t (Za _ g)) (fun t g=>A t (Za _ g)) I (EA (m:=t.2) i s z) (by omega);exact⟨o,L,(M.and J).mono fun E K ⟨e1,e2⟩=>.cons F e2 e1⟩
theorem tE {us}:∀b a,(mz us b a).length<=a.length+b.length*us.length
 |[],_=>by simp[mz]
 |t::b,a=>by
  have c:=tE (us:=us) b (zh t.1 t.2 us a);have d:=zg (z:=t.1) (m:=t.2) us a;simp only[mz,Zj,ZX,Yf];omega
theorem nG {B}(q:q7 B){D w a b C k}(U:xR D w a b C k){y z}{f g}(V:PQ y f)(W:PQ z g)(S:W8 D a f)(T:W8 w b g)(nf:∀t∈f,t.1≠0)(dg:Ph g)(X:∀t∈f,∀u∈g,XA (Xg t.2 u.2))(x:f.length*(g.length*(a*b))<=C)(hl:f.length*g.length<60000)(l1:f.length<1000)(l2:g.length<1000):
  ∃o,Xv B 78 [.one y,.one z] (.Wd [.one (.Xl o),.one (La0 0)])/\X6 o (Wy [] f g):=by
 obtain⟨A,I,c⟩:=V;obtain⟨qs,sq,i⟩:=W;have J:=c.length;have L:=i.length;have F:=c.vC.q8;have H:=i.vC.q8;obtain⟨ch,Q,R⟩:=wF q.toStd U i T c S X (ch:=[]) (acc:=[]) (d:=0) .nil (fun _ h=>by cases h) (by omega);have j:=tE (us:=g) f [];have s:((mz g f []).map (·.2)).Nodup:=jG (by simp);obtain⟨o,ws,M,N,O,P⟩:=pz Q s (by simp at j;omega);have v:XT B fun E _=>∀G,E.heap 132 [.one (.mp 0)] (Tq ch::G)=some (La4 (.Xl o),(Tq ch::G).map VT):=by
  exact⟨0,fun K n _ _ G=>(B.H9 (K:=0) (n:=0) (Zw K) (Zw n)).heap _ _ _ _ (q.sorted _ _ _ (M G))⟩
 refine⟨o,Xv.of (q.toStd.Wa _ _ rfl) ((R.and (v.and (q.toStd.Xk.and (XT.ge (A.length+qs.length+1))))).mono fun E K ⟨e1,e2,l,hK⟩=> ?_),?_⟩
 ·obtain⟨T',G',Y,Z⟩:=Bc (K:=K) l I sq (by omega) (by omega) (by omega) A [] ch e1 0 K [] (by simp) (by simp) (by omega);have r:Sj 8 true 0 []=some ⟨.one (.mp 0),[Tq []],[],[]⟩:=rfl;simp only[Xo,Vv,Xs,r,reduceIte,Nat.reduceEqDiff,Nat.reduceLeDiff,Nat.reduceAdd,x78,I.len,Y,Z,e2,l,X3]
 ·have e:ws=Wy [] f g:=by
   refine Ph.ext O (ik F H (fun _ h=>by cases h) nf dg .nil) fun m=> ?_
   rw[Wm,Wm,AY P,O9,tD,cr (WJ m) F H (fun _ h=>by cases h)]
  rw[<-e];exact N
