/- Reference: closed ends; what it answers is a Groebner basis. -/
import Derived.Test.YtidginchkjhobaaGreatGam
namespace Go.Proofs.YtidginchkjhobaaGreat
open Go.Ev Go.Num
def Dn (o:M')(w:P')(fs:S')(k i:Nat):Prop:=
 ∀(a b:Nat) (f g:Z'),a<b->(b<k\/(b=k/\a<i))->fs[a]? =some f->fs[b]? =some g->∀gs,(∀f∈fs,f∈gs)->(∀f∈gs,Pl f)->∀s t,XR o f=some s->XR o g=some t->SB o w gs f g s t
theorem Dn.app {o:M'}{w:P'}{c:S'}{k i:Nat}(h:Dn o w c k i)(t:k<c.length)(r:Z'):Dn o w (c++[r]) k i:=fun a b f g d p l m n j q=>by
 have e:b<c.length:=by omega
 rw[ZA (by omega)]at l;rw[ZA e]at m;exact h a b f g d p l m n (fun x s=>j x (List.mem_append_left _ s)) q
theorem lD {o:M'}{f:Z'}(b:Pl f){s:Qm}(g:XR o f=some s):∃a,(s::a).Perm f/\PO o (s::a):=by
 have c:=WL o f;have d:=U5 (o:=o) b.SQ;cases e:Vz o f with
 |nil=>
  rw[e]at c;have:=c.length_eq;have h0:=List.length_pos_of_mem (XK b g).1;simp at this;omega
 |cons h a=>
  have:=Pk b e
  grind
theorem o6 {e f:El}:Dm e f=true↔QW (Vi e.a e.b) (Vi f.a f.b)=Tz:=by
 have c:QW (Vi e.a e.b) (Vi f.a f.b)=Vi (Nat.min e.a f.a) (Nat.min e.b f.b):=rfl
 simp_all [Dm]
section
variable {B:Xs}{o:M'}{lo:PL}{ms:List (Nat×Nat)}{w:P'}
theorem Jk {i:S'}(G:GA o ms w){f g:Z'}{e c:El}(d:Q2 o ms e f)(h:Q2 o ms c g)(k:f∈i)(l:g∈i)(j:Dm e c=true):SB o w i f g (1,Vi e.a e.b) (1,Vi c.a c.b):=by
 obtain⟨r,m,n⟩:=lD d.pl d.ld;obtain⟨s,p,q⟩:=lD h.pl h.ld;refine SB.coprime k l d.ld h.ld m p n q (d.wt G) (h.wt G) fun x u=> ?_
 have t:=o6.1 j
 simp_all
structure IN (o:M')(ms:List (Nat×Nat))(hm n:Nat)(st:O')(ps:N')(fs:S'):Prop where
 pl:oe ms (W4 ms) hm n st=true
 ft:Fit o ms st fs
 ps:VS ps fs
 hs:∀e∈st,e.h<=hm
theorem NR (U:Std B)(so:TR lo o)(ho:Vt o)(C:o.length<1000000)(hv:Xu B 22 [.one lo] (.one (.bool true)))(G:GA o ms w){hm:Nat}(N:hm<=1000000)(k N0:Nat)(hN:N0<=40):∀(d i n:Nat) (M:O') (L:N') (m:S'),i+d=k->k<m.length->m.length+n<=N0->IN o ms hm n M L m->Dn o w m k i->
  ∃P A y j,(XS B fun E _=>DX E lo k L i y)/\m.length<=j.length/\j.length+P<=N0/\IN o ms hm P A y j/\Dn o w j k k/\∀f∈m,f∈j
 |0,i,n,M,L,m,hi,hk,hb,S,D=>by
  have :i=k:=by omega
  subst this;exact⟨n,M,L,m,XS.of fun _ _=>.stop,Ze _,hb,S,D,fun _ h=>h⟩
 |d+1,i,n,M,L,m,hi,hk,hb,S,D=>by
  have Y:i<k:=by omega
  have b5:L.length=m.length:=S.ps.length;have b1:i<m.length:=by omega
  obtain⟨f,hf⟩:∃f,m[i]? =some f:=⟨_,Zg b1⟩;obtain⟨g,hg⟩:∃g,m[k]? =some g:=⟨_,Zg hk⟩;obtain⟨p,hp,pf⟩:=S.ps.get hf;obtain⟨q,hq,qg⟩:=S.ps.get hg;have mf:=Zk hf;have mg:=Zk hg;obtain⟨e,he,Q⟩:=S.ft.all f mf;obtain⟨F,a2,T⟩:=S.ft.all g mg;have b2:XD (Vi e.a e.b):=aw (by have:=Q.Iq;omega) (by have:=Q.Io;omega);have b3:XD (Vi F.a F.b):=aw (by have:=T.Iq;omega) (by have:=T.Io;omega);have h1:=S6 U so ho C pf (by have:=Q.ln;omega) Q.ld;have h2:=S6 U so ho C qg (by have:=T.ln;omega) T.ld;have h3:=yO U b2 b3;have hC:XS B fun E _=>ID E lo p q (Vi e.a e.b) (Vi F.a F.b) (QW (Vi e.a e.b) (Vi F.a F.b)):=(h1.Xk.and (h2.Xk.and h3.Xk)).mono fun E K ⟨a,b,c⟩=>⟨rfl,rfl,rfl,a,b,c⟩
  have z:∀j,(∀x∈m,x∈j)->j[i]? =some f->j[k]? =some g->Dn o w j k i->(∀I,(∀f∈j,f∈I)->(∀f∈I,Pl f)->SB o w I f g (1,Vi e.a e.b) (1,Vi F.a F.b))->Dn o w j k (i+1):=fun j _ a8 a9 D' h=>by
   intro a b f1 g1 a7 hb W X I u b0 s t hs ht;by_cases a4:b=k/\a=i
   ·obtain⟨rfl,rfl⟩:=a4;rw[a8]at W;cases W;rw[a9]at X;cases X;rw[Q.ld]at hs;cases hs;rw[T.ld]at ht;grind
   ·exact D' a b f1 g1 a7 (by omega) W X I u b0 s t hs ht
  cases hc:Dm e F with
  |true=>
   have D1:=z m (fun _ h=>h) hf hg D fun I u _=>Jk G Q T (u f mf) (u g mg) hc
   obtain⟨P,A,y,j,k1,k2,k3,k4,k5,k6⟩:=NR U so ho C hv G N k N0 hN d (i+1) n M L m (by omega) hk hb S D1;exact⟨P,A,y,j,(k1.and hC).mono fun E K ⟨a,b⟩=>.skip hp hq Y (by omega) b (o6.1 hc) a,k2,k3,k4,k5,k6⟩
  |false=>
   have hz:QW (Vi e.a e.b) (Vi F.a F.b)≠Tz:=fun h=>by grind [o6]
   cases n with
   |zero=>have:=S.pl;simp[oe]at this
   |succ n=>
    have v:=S.pl;unfold oe at v;cases ha:Dy M ms (W4 ms) M 0 0 with
    |none=>grind
    |some HR=>
     obtain⟨H,R⟩:=HR;rw[ha]at v;simp only[Zs]at v;obtain⟨hH,Z⟩:=v;have a1:H<=hm:=Nat.le_of_ble_eq_true hH;have a0:=(np ha).2.2 e he F a2;obtain⟨s,r,R0,s1,s2,s3,s4,s5⟩:=y0 U so ho C hv G S.ft S.ps (by omega) S.hs N a1 pf qg mf mg Q T he a2 a0 hc;by_cases hR:R0=[]
     ·subst hR;have D1:=z m (fun _ h=>h) hf hg D fun I u hp=>s5 I u (fun h=>absurd rfl h) hp
      obtain⟨P,A,y,j,k1,k2,k3,k4,k5,k6⟩:=NR U so ho C hv G N k N0 hN d (i+1) (n+1) M L m (by omega) hk hb S D1;obtain⟨es,sl,V⟩:=s3;cases V;exact⟨P,A,y,j,(k1.and (hC.and (s1.Xk.and s2))).mono fun E K ⟨a,b,c,d⟩=>.zero hp hq Y (by omega) b hz c d sl a,k2,k3,k4,k5,k6⟩
     ·obtain⟨e2,a3,a6⟩:=s4.resolve_left hR;have O:=jY Z e2 a3;have b4:e2.h<=hm:=by
       have :∀{l:List (Nat×Nat)},e2∈kids H R l->e2.h=H:=fun{l}=>by
        induction l with
        |nil=>intro h;cases h
        |cons x l ih=>
         intro h;obtain⟨xa,xb⟩:=x;unfold kids at h
         grind
       rw[this a3];exact a1
      have S2:IN o ms hm n (M++[e2]) (L++[r]) (m++[R0]):=⟨O,S.ft.snoc a6,S.ps.append (.cons s3 .nil),fun x J=>by
       rcases ZW.1 J with J|J
       ·exact S.hs x J
       grind⟩
      have D1:=z (m++[R0]) (fun x J=>List.mem_append_left _ J) (by grind) (by grind) (D.app hk R0) fun I u hp=>s5 I (fun x J=>u x (List.mem_append_left _ J)) (fun _=>u R0 (List.mem_append_right _ (ZS.2 rfl))) hp
      obtain⟨P,A,y,j,k1,k2,k3,k4,k5,k6⟩:=NR U so ho C hv G N k N0 hN d (i+1) n (M++[e2]) (L++[r]) (m++[R0]) (by omega) (by grind) (by grind) S2 D1;obtain⟨es,sl,V⟩:=s3;have a5:0<es.length:=by
       rw[V.length]
       grind
      exact⟨P,A,y,j,(k1.and (hC.and (s1.Xk.and s2))).mono fun E K ⟨a,b,c,d⟩=>.new hp hq Y (by omega) b hz c d sl a5 a,by grind,k3,k4,k5,fun x J=>k6 x (List.mem_append_left _ J)⟩
theorem jU (J:Std B)(Q:TR lo o)(M:Vt o)(p:o.length<1000000)(O:Xu B 22 [.one lo] (.one (.bool true)))(G:GA o ms w){y:Nat}(m:y<=1000000)(i:Nat)(L:i<=40):∀(d k n:Nat) (r:O') (j:N') (e:S'),k+d=i->k<=e.length->e.length+n<=i->IN o ms y n r j e->Dn o w e k 0->
  ∃N P F q c,(XS B fun E _=>GG E lo N j k q)/\c.length+P<=i/\IN o ms y P F q c/\Dn o w c c.length 0/\∀f∈e,f∈c
 |d,k,n,r,j,e,hd,hk,u,S,D=>by
  have z:j.length=e.length:=S.ps.length;by_cases x:k=e.length
  ·subst x;refine⟨0,n,r,j,e,XS.of fun _ _=>by rw[<-z];exact .stop,u,S,D,fun _ h=>h⟩
  ·cases d with
   |zero=>omega
   |succ d=>
    obtain⟨n1,H,A,l,U,k2,V,W,X,Y⟩:=NR J Q M p O G m k i L k 0 n r j e (by omega) (by omega) u S D;have R:Dn o w l (k+1) 0:=fun a b f g t u v T=>X a b f g t (by omega) v T
    obtain⟨N,n2,I,C,s,Z,m2,m3,m4,m5⟩:=jU J Q M p O G m i L d (k+1) n1 H A l (by omega) (by omega) V W R;exact⟨N+1,n2,I,C,s,(Z.and U).mono fun E K ⟨a,b⟩=>.next (by omega) (by omega) b a,m2,m3,m4,fun f v=>m5 f (Y f v)⟩
end
end Go.Proofs.YtidginchkjhobaaGreat
namespace Go.Num
open Go.Ev
def Kr (e f:El):Bool:=Nat.beq e.a f.a&&Nat.beq e.b f.b&&Nat.beq e.t f.t&&Nat.beq e.h f.h
theorem Ia {e f:El}(h:Kr e f=true):e=f:=by
 obtain⟨a,b,c,d⟩:=e;obtain⟨g,i,j,k⟩:=f;unfold Kr at h;simp only[Zs,Nat.beq_eq]at h;obtain⟨⟨⟨rfl,rfl⟩,rfl⟩,rfl⟩:=h;rfl
def Cy (e:El):O'->Bool
 |[]=>false
 |f::st=>bif Kr f e then true else Cy e st
theorem sn {e:El}:∀{a:O'},Cy e a=true->e∈a
 |[],h=>by cases h
 |f::a,h=>by
  unfold Cy at h;cases b:Kr f e with
  |true=>rw[Ia b];exact Zc ..
  |false=>rw[b]at h;exact Zb _ (sn h)
def oX:Nat:=W4 [(2,0),(1,1),(0,2),(1,0),(0,1),(0,0)]
def QY (ms:List (Nat×Nat))(M hm n:Nat):Nat->O'->Bool
 |0,st=>oe ms M hm n st
 |m+1,st=>bif oe ms M hm n st then Dz (fun e=>bif Cy e st then true else QY ms M hm n m (st++[e])) (kids 1 oX ms)else false
end Go.Num
namespace Go.Proofs.YtidginchkjhobaaGreat
open Go.Ev Go.Num
theorem Na {o:M'}{ms:List (Nat×Nat)}{g n:Nat}:∀{d fs:S'} {m:Nat} {a:O'},QY ms (W4 ms) g n m a=true->Fit o ms a fs->d.length<=m->(∀r∈d,∃e∈kids 1 oX ms,Q2 o ms e r)->(∀e∈a,e.h<=1)->(∀e∈kids 1 oX ms,e.h<=1)->∃c,oe ms (W4 ms) g n c=true/\Fit o ms c (fs++d)/\∀e∈c,e.h<=1
 |[],fs,m,a,hb,ft,_,_,hs,_=>by
  rw[ZE];refine⟨a,?_,ft,hs⟩;cases m with
  |zero=>exact hb
  |succ m=>
   unfold QY at hb;cases i:oe ms (W4 ms) g n a with
   |true=>rfl
   |false=>rw[i]at hb;cases hb
 |r::d,fs,m,a,hb,ft,hl,s,hs,hk=>by
  cases m with
  |zero=>simp at hl
  |succ m=>
   simp only[Zi,Nat.add_le_add_iff_right]at hl;obtain⟨e,p,k⟩:=s r (Zc ..);have f:=fun x b=>s x (Zb _ b)
   have e1:fs++r::d=(fs++[r])++d:=by simp
   rw[e1];have j:=hb;unfold QY at hb;cases i:oe ms (W4 ms) g n a with
   |false=>rw[i]at hb;cases hb
   |true=>
    rw[i,cond_true]at hb;have l:=jY hb e p;cases q:Cy e a with
    |false=>
     simp only[q,cond_false]at l;exact Na l (ft.snoc k) hl f (fun x b=>by
      rcases ZW.1 b with b|b
      ·exact hs x b
      ·rw[ZS.1 b];exact hk e p) hk
    |true=>
     exact Na j (ft.dup k (sn q)) (by omega) f hs hk
theorem vd {H R:Nat}{e:El}:∀{l:List (Nat×Nat)},e∈kids H R l->e.h=H
 |[],h=>by cases h
 |(xa,xb)::l,h=>by
  unfold kids at h;cases a:Nat.testBit R (Su xa xb)with
  |false=>rw[a]at h;exact vd h
  |true=>
   rw[a]at h;rcases Zj.1 h with rfl|h
   ·rfl
   ·exact vd h
theorem Ec {o:M'}{ms e b:List (Nat×Nat)}(c:DP o (ms.map m2)){d p:Nat×Nat}(i:ms=e++d::b)(f:p∈ms)(a:WO o (m2 p) (m2 d)):p∈b:=by
 rw[i]at f c;rw[List.map_append,Zt]at c;have g:=(List.pairwise_append.1 c).2.2;rcases ZW.1 f with h|h
 ·exact absurd (g (m2 p) (ZM.2 ⟨p,h,rfl⟩) (m2 d) (Zc ..)) fun k=>k.asymm rfl rfl a
 ·rcases Zj.1 h with h|h
  ·rw[h]at a;exact absurd a WO.zD
  ·exact h
theorem xN {a b:Nat}(h:a+b<=2):Nat.testBit oX (Su a b)=true:=by
 unfold oX;rw[Nn];have :(a=0/\b=0)\/(a=0/\b=1)\/(a=0/\b=2)\/(a=1/\b=0)\/(a=1/\b=1)\/(a=2/\b=0):=by omega
 rcases this with⟨rfl,rfl⟩|⟨rfl,rfl⟩|⟨rfl,rfl⟩|⟨rfl,rfl⟩|⟨rfl,rfl⟩|⟨rfl,rfl⟩<;>first |exact⟨(0,0),by simp,rfl⟩|exact⟨(0,1),by simp,rfl⟩|exact⟨(0,2),by simp,rfl⟩|exact⟨(1,0),by simp,rfl⟩|exact⟨(1,1),by simp,rfl⟩|exact⟨(2,0),by simp,rfl⟩
def EV (o:M'):S'->S'
 |[]=>[]
 |f::fs=>match f with
  |[]=>EV o fs
  |t::ts=>S5 o (t::ts)::EV o fs
theorem wH (o:M'):∀(a:S'),(EV o a).length<=a.length
 |[]=>Ze _
 |f::a=>by
  have:=wH o a;cases f with
  |nil=>simp only[EV,Zi];omega
  |cons t b=>simp only[EV,Zi];omega
section
variable {B:Xs}{o:M'}{lo:PL}{ms:List (Nat×Nat)}{w:P'}
theorem Fm (x:vT o ms)(B:∀a b,a+b<=2->(a,b)∈ms){f:Z'}(I:G2 2 9 3 f)(l:f≠[]):∃s,XR o f=some s/\S5 o f=X1 s.1⁻¹ f/\Sq s.1/\Sq s.1⁻¹/\∃e∈kids 1 oX ms,Q2 o ms e (X1 s.1⁻¹ f):=by
 obtain⟨g,A⟩:=I;cases w:XR o f with
 |none=>exact absurd (Td w) l
 |some s=>
  obtain⟨K,Q,S,L⟩:=XK g.pl w;have G:VQ 1 9 f:=fun t n=>by
   obtain⟨z,O,P⟩:=g.cf t n;exact⟨z,by rw[O];exact Rat.mul_one _,P⟩
  have E:=g.len;obtain⟨w1,M,N⟩:=bJ (h:=1) g.pl (by omega) (by omega) (by decide) (by omega) G (by omega) w;obtain⟨a,b,F,q⟩:=A s K;have m:s.2=Vi a b:=F;have k:=B a b q;obtain⟨J,D,i⟩:=List.append_of_mem k;have r:=jg (H:=1) (R:=oX) i (xN q);refine⟨s,rfl,by unfold S5;rw[w],M,N,_,r,⟨9,by have:=w1;rw[m]at this;exact this,show 2*9<=32^1 by decide⟩,fun u C l=> ?_,(x.lt _ k).1,(x.lt _ k).2,by rw[show(X1 s.1⁻¹ f).length=f.length by simp[X1]];omega,fun u C=> ?_⟩
  ·obtain⟨t,n,e1,-⟩:=TU C;obtain⟨c,d,y,j⟩:=A t n;have p:t.2=Vi c d:=y;have v:WO o t.2 s.2:=by
    rcases L t n with h|h
    ·exact absurd (by rw[e1,h,m]) l
    ·exact h
   rw[p,m]at v;refine⟨c,d,by rw[e1,p],by omega,by omega,?_⟩;show Nat.testBit (Nat.land oX (W4 D)) _=true;rw[v7,xN j,Bool.true_and,Nn];exact⟨(c,d),Ec x.dc i (B c d j) v,rfl⟩
  ·obtain⟨t,n,e1,-⟩:=TU C;obtain⟨c,d,y,j⟩:=A t n;exact⟨(c,d),B c d j,by rw[e1];exact y⟩
theorem lY (y:Std B)(I:TR lo o)(D:Vt o)(i:o.length<1000000)(u:vT o ms)(A:∀a b,a+b<=2->(a,b)∈ms):∀{n:N'} {g:S'},VS n g->(∀f∈g,G2 2 9 3 f)->∃k,(XS B fun E _=>QZ E lo n k)/\VS k (EV o g)/\∀f∈EV o g,∃e∈kids 1 oX ms,Q2 o ms e f
 |[],[],.nil,_=>⟨[],XS.of fun _ _=>.nil,.nil,fun _ h=>by cases h⟩
 |p::n,f::g,.cons hp h,hg=>by
  obtain⟨k,F,G,H⟩:=lY y I D i u A h fun x d=>hg x (Zb _ d)
  have l:=hg f (Zc ..);cases f with
  |nil=>
   obtain⟨v,r,c⟩:=hp;cases c;exact⟨k,F.mono fun E K e=>.skip r e,G,H⟩
  |cons t Q=>
   obtain⟨s,C,J,O,P,e,L,w⟩:=Fm u A l (by simp);have m:Sz (t::Q):=fun x d=>by
    obtain⟨z,R,S⟩:=l.1.cf x d;rw[R];exact Sq.int (by omega)
   have M:=l.1.len;obtain⟨q,N,m2⟩:=ju y I D i hp (by omega) m C (XK l.1.pl C).2.2.1 P O;rw[<-J]at m2 w;obtain⟨v,r,c⟩:=hp;have j:0<v.length:=by rw[c.length];simp
   refine⟨q::k,(F.and N.Xk).mono fun E K ⟨a,b⟩=>.new r j b a,.cons m2 G,fun x d=> ?_⟩;rcases Zj.1 d with rfl|d
   ·exact⟨e,L,w⟩
   ·exact H x d
theorem Ht (u:Std B)(y:TR lo o)(v:Vt o)(j:o.length<1000000)(J:Xu B 22 [.one lo] (.one (.bool true)))(G:GA o ms w)(H:∀a b,a+b<=2->(a,b)∈ms){l n:Nat}(q:l<=1000000)(p:1<=l)(V:n<=30)(D:QY ms (W4 ms) l n 3 []=true)
  {x:N'} {fs:S'} (r:VS x fs) (I:∀f∈fs,G2 2 9 3 f) (T:fs.length<=3):
  ∃k N c d s i,(XS B fun E _=>QZ E lo x k)/\(XS B fun E _=>GG E lo N k 0 c)/\IN o ms l s i c d/\Dn o w d d.length 0/\d.length<=40/\∀f∈EV o fs,f∈d:=by
 obtain⟨k,K,L,M⟩:=lY u y v j G.bx H r I;have U:=wH o fs;obtain⟨S,z,t,A⟩:=Na (fs:=[]) D (Fit.nil o ms) (by omega) M (fun _ h=>by cases h) fun e m=>YI (vd m)
 rw[ZF]at t;obtain⟨N,s,i,c,d,O,m2,P,Q,R⟩:=jU u y v j J G q 40 (by omega) 40 0 n S k (EV o fs) (by omega) (by omega) (by omega) ⟨z,t,L,fun e m=>Zx (A e m) p⟩ (fun a b f g C F=>by omega);exact⟨k,N,c,d,s,i,K,O,P,Q,by omega,R⟩
end
end Go.Proofs.YtidginchkjhobaaGreat
namespace Go.Proofs.YtidginchkjhobaaGreat
open Go.Ev Go.Num
def R7 (o:M')(f:Z'):P':=match XR o f with
 |some s=>s.2
 |none=>[]
theorem iW {n:P'}{a:Nat}:∀{ms:J'} {i:Nat},Rp ms i a n=true↔∃(j:Nat) (m:P'),ms[j]? =some m/\i+j≠a/\Wn m n=true
 |[],i=>by
  constructor
  ·intro h;cases h
  ·rintro ⟨j,m,h,-⟩;simp at h
 |m::ms,i=>by
  unfold Rp;by_cases c:i≠a/\Wn m n=true
  ·rw[if_pos c];exact⟨fun _=>⟨0,m,rfl,c.1,c.2⟩,fun _=>rfl⟩
  ·rw[if_neg c,iW (ms:=ms)];constructor
   ·rintro ⟨j,e,b,f,d⟩;exact⟨j+1,e,by rw[Z2];exact b,by omega,d⟩
   ·rintro ⟨j,e,b,f,d⟩;cases j with
    |zero=>simp only[Ym,Za]at b;subst b;exact absurd ⟨f,d⟩ c
    |succ j=>rw[Z2]at b;exact⟨j,e,b,by omega,d⟩
theorem wP {b:Type}:∀(l:List b) (i a:Nat),a<i->Uh l i a=l
 |[],_,_,_=>rfl
 |x::l,i,a,h=>by
  unfold Uh;rw[if_neg (by omega),wP l (i+1) a (by omega)]
theorem iP {b:Type}:∀(l:List b) (i a:Nat),i<=a->Uh l i a=l.eraseIdx (a-i)
 |[],_,_,_=>by simp[Uh]
 |x::l,i,a,h=>by
  unfold Uh;by_cases e:i=a
  ·subst e;rw[if_pos rfl,wP l (i+1) i (by omega),YH];rfl
  ·rw[if_neg e,iP l (i+1) a (by omega)];have :a-i=(a-(i+1))+1:=by omega
   rw[this];rfl
theorem B7 {b:Type}(l:List b)(a:Nat):Uh l 0 a=l.eraseIdx a:=by rw[iP l 0 a (Zw _),YW]
theorem VS.erase {c:N'}{b:S'}(h:VS c b)(a:Nat):VS (Uh c 0 a) (Uh b 0 a):=by
 rw[B7,B7,List.eraseIdx_eq_take_drop_succ,List.eraseIdx_eq_take_drop_succ];exact(h.take a).append (h.drop (a+1))
def pF (o:M')(fs:S')(j:Nat):Prop:=∃(i:Nat) (f g:Z'),i≠j/\fs[i]? =some f/\fs[j]? =some g/\Wn (R7 o f) (R7 o g)=true
theorem rC {o:M'}{b:S'}{j:Nat}{g:Z'}(h:b[j]? =some g):Rp (b.map (R7 o)) 0 j (R7 o g)=true↔pF o b j:=by
 rw[iW];constructor
 ·rintro ⟨i,m,a,e,c⟩;rw[ZD]at a;cases d:b[i]? with
  |none=>rw[d]at a;cases a
  |some f=>rw[d]at a;cases a;exact⟨i,f,g,by omega,d,h,c⟩
 ·rintro ⟨i,f,l,a,e,c,k⟩;rw[h]at c;cases c;exact⟨i,R7 o f,by rw[ZD,e];rfl,by omega,k⟩
theorem pF.erase {o:M'}{d:S'}{a j:Nat}(m:j<a)(h:pF o (d.eraseIdx a) j):pF o d j:=by
 obtain⟨i,f,g,l,b,c,e⟩:=h;rw[List.getElem?_eraseIdx]at b c;rw[if_pos m]at c;by_cases k:i<a
 ·rw[if_pos k]at b;exact⟨i,f,g,l,b,c,e⟩
 ·rw[if_neg k]at b;exact⟨i+1,f,g,by omega,b,c,e⟩
section
variable {B:Xs}{o:M'}{lo:PL}
def Mn (o:M')(f:Z'):Prop:=∃m,XR o f=some (1,m)/\XD m/\f.length<=200
theorem Mn.lm {f:Z'}(h:Mn o f):XR o f=some (1,R7 o f)/\XD (R7 o f):=by
 obtain⟨m,a,b,-⟩:=h;have :R7 o f=m:=by unfold R7;rw[a]
 rw[this];exact⟨a,b⟩
theorem rW (g:Std B)(j:TR lo o)(i:Vt o)(c:o.length<1000000):∀{e:N'} {d:S'},VS e d->(∀f∈d,Mn o f)->XS B fun E _=>DJ E lo e (d.map (R7 o))
 |[],[],.nil,_=>XS.of fun _ _=>.nil
 |p::e,f::d,.cons hp h,hf=>by
  have r:=rW g j i c h fun x q=>hf x (Zb _ q)
  obtain⟨m,k,l,n⟩:=hf f (Zc ..);obtain⟨s,t⟩:=Mn.lm ⟨m,k,l,n⟩;have:=S6 g j i c hp (by omega) s;exact(r.and this.Xk).mono fun E K ⟨a,b⟩=>.cons ⟨t.1,b⟩ a
theorem jE (u:Std B)(W:TR lo o)(P:Vt o)(t:o.length<1000000):∀(d a:Nat) (l:N') (b:S'),b.length=a+d->b.length<=1000->VS l b->(∀f∈b,Mn o f)->(∀j,j<a->¬pF o b j)->
  ∃N k c,(XS B fun E _=>pH E lo N l a k)/\VS k c/\c.Sublist b/\(∀f∈b,∃g∈c,Wn (R7 o g) (R7 o f)=true)/\∀j,j<c.length->¬pF o c j
 |0,a,l,b,hl,_,hps,hm,hn=>by
  have S:l.length=b.length:=hps.length;have :a=l.length:=by omega
  subst this;refine⟨0,l,b,XS.of fun _ _=>.stop,hps,.refl _,fun f p=>⟨f,p,?_⟩,fun j s=>hn j (by omega)⟩;have h8:=(Mn.lm (hm f p)).2.1;have:=Rw (R7 o f) zM
  rwa[XW,Qb h8]at this
 |d+1,a,l,b,hl,hl2,hps,hm,hn=>by
  have S:l.length=b.length:=hps.length;obtain⟨g,A⟩:∃g,b[a]? =some g:=⟨_,Zg (by omega)⟩;have J:=rW u W P t hps hm;have O:∀m∈b.map (R7 o),XD m:=fun m M=>by
   obtain⟨f,p,rfl⟩:=ZM.1 M;exact(Mn.lm (hm f p)).2
  have r:=zO u (L:=.Xn (Ub l)) .Xn (by omega) J O (a:=a) (n:=R7 o g) (by rw[ZD,A];rfl);by_cases C:pF o b a
  ·have hT:=(rC A).2 C;rw[hT]at r;have Q:=eT u (L:=.Xn (Ub l)) .Xn (by omega) a;have R:=hps.erase a;have e1:=B7 b a;have H:(Uh b 0 a).length=a+d:=by rw[e1,List.length_eraseIdx_of_lt (by omega)];omega
   have e:(Uh b 0 a).Sublist b:=by rw[e1];exact List.eraseIdx_sublist ..
   obtain⟨N,k,c,T,U,D,F,V⟩:=jE u W P t d a (Uh l 0 a) (Uh b 0 a) H (by omega) R (fun f p=>hm f (e.subset p)) fun j s Z=>hn j s (by rw[e1]at Z;exact Z.erase s)
   refine⟨N+1,k,c,(T.and (r.Xk.and Q.Xk)).mono fun E K ⟨x,y,z⟩=>.drop (by omega) y z x,U,D.trans e,fun f p=> ?_,V⟩;by_cases w:f∈Uh b 0 a
   ·exact F f w
   ·obtain⟨i,G,g1,c1,c2,c3,c4⟩:=C;rw[A]at c3;cases c3;have v:G∈Uh b 0 a:=by rw[e1];exact List.mem_eraseIdx_iff_getElem?.2 ⟨i,c1,c2⟩
    obtain⟨X,Y,h2⟩:=F G v;have I:f=g:=by
     obtain⟨j,s⟩:=ZB.1 p;by_cases q:j=a
     ·subst q;rw[A]at s;cases s;rfl
     ·exact absurd (by rw[e1];exact List.mem_eraseIdx_iff_getElem?.2 ⟨j,q,s⟩) w
    subst I;have l1:=(Mn.lm (hm X (e.subset (D.subset Y)))).2.1;have l2:=(Mn.lm (hm G (e.subset v))).2.1;have l3:=(Mn.lm (hm f p)).2.1;refine⟨X,Y,?_⟩;have e3:=W6 (l1.trans l2.symm) h2;have e4:=W6 (l2.trans l3.symm) c4;rw[<-e4,<-e3,UD];exact Rw ..
  ·have hF:Rp (b.map (R7 o)) 0 a (R7 o g)=false:=by
    cases h:Rp (b.map (R7 o)) 0 a (R7 o g)with
    |false=>rfl
    |true=>exact absurd ((rC A).1 h) C
   rw[hF]at r;obtain⟨N,k,c,T,U,D,F,V⟩:=jE u W P t d (a+1) l b (by omega) hl2 hps hm fun j s=>by
    by_cases q:j=a
    ·subst q;exact C
    ·exact hn j (by omega)
   exact⟨N+1,k,c,(T.and r.Xk).mono fun E K ⟨x,y⟩=>.VM (by omega) (by omega) y x,U,D,F,V⟩
end
end Go.Proofs.YtidginchkjhobaaGreat
namespace Go.Proofs.YtidginchkjhobaaGreat
open Go.Ev Go.Num
theorem OW {o:M'}{m:P'}:∀{a:S'} {i j:Nat},WE o m a i=some j->∃f s,a[j-i]? =some f/\XR o f=some s/\Wn s.2 m=true
 |[],_,_,h=>by cases h
 |f::a,i,j,h=>by
  unfold WE at h;have c:WE o m a (i+1)=some j->∃b s,(f::a)[j-i]? =some b/\XR o b=some s/\Wn s.2 m=true:=fun h=>by
   have e:=dQ h;obtain⟨b,s,d,g,k⟩:=OW h
   grind
  cases l:XR o f with
  |none=>grind
  |some s=>
   grind
def Ew (o:M')(w:P')(hm:Nat)(f:Z'):Prop:=∃m A,Fe o A 1 m f/\2*A<=32^hm/\XD m/\f.length<=200/\∀u∈f,WB w u.2<=WB w m
theorem Fe.uniq {o:M'}{A B:Nat}{c d:Rat}{m n:P'}{f:Z'}(h:Fe o A c m f)(k:Fe o B d n f):n=m:=by
 have:=k.ld;rw[h.ld]at this
 grind
theorem Fe.IM {o:M'}{A:Nat}{m:P'}{f:Z'}(F:Fe o A 1 m f):∃D,0<D/\D<=A/\VQ D A f:=by
 obtain⟨D,a,b,c,d⟩:=F.cf;refine⟨D,a,b,fun u e=> ?_⟩
 grind
theorem O3 (c:Nat):∀(l:J'),V4 (fun _=>c) l=l.length*c
 |[]=>by simp[V4]
 |n::l=>by simp only[V4,O3 c l,Zi,Nat.succ_mul];omega
section
variable {B:Xs}{o:M'}{lo:PL}{w:P'}
theorem Jq (j:w.length=8)(k:∀x∈w,0<x){V:Nat}(z:V<=65535){q:Nat}{fs:S'}(B:∀f∈fs,Ew o w q f):Rg o fs (fun _=>q) (SO o (allM w V)):=by
 have g:=ow (o:=o) j k V;refine⟨g.dc,fun n C=>(g.xh n C).ok j k z,fun a e=> ?_⟩;cases c:WE o a fs 0 with
 |none=>exact .inl rfl
 |some i=>
  right;obtain⟨f,s,l,H,p⟩:=OW c;obtain⟨m,A,F,y,G,-,d⟩:=B f (Zk l);have E:s=(1,m):=by
   have:=F.ld
   grind
  subst E;refine⟨i,f,1,m,A,rfl,l,F,y,p,fun u r _=> ?_⟩;have b:=g.xh a e;have h:=Vy b.1 F.m8;have D:Xg (XQ a m) m=a:=by rw[XW];exact W6 (F.m8.trans b.1.symm) p
  have t:=F.pl.q8 u r;refine WS.2 (TF (j.trans (Vr h t).symm) k ?_);rw[W1 w (h.trans t.symm)];have I:=d u r;have v:=b.2;rw[<-D,W1 w (h.trans F.m8.symm)]at v;omega
theorem Rg.Ik {p:S'}{c:P'->Nat}{l:J'}(h:Rg o p c l){L:P'}(s:L8 L):Rg o p c (l.filter fun n=>decide (n=L\/WO o n L)):=by
 refine⟨h.dc.sublist List.filter_sublist,fun n t=>h.ok n (Yo.1 t).1,fun j g=> ?_⟩;obtain⟨k,r⟩:=Yo.1 g;rcases h.dv j k with e|⟨i,f,lc,m,A,e1,e2,e3,e4,e5,e6⟩
 ·exact .inl e
 ·refine .inr ⟨i,f,lc,m,A,e1,e2,e3,e4,e5,fun u b a=>Yo.2 ⟨e6 u b a,decide_eq_true (.inr ?_)⟩⟩;have d:=h.l8 j k;have q:=Vy d e3.m8;have:=(e3.lt b a).add q (e3.pl.q8 u b) e3.m8;rw[XW (XQ j m) m,W6 (e3.m8.trans d.symm) e5]at this;rcases of_decide_eq_true r with h2|h2
  ·grind
  ·exact this.trans (Vr q (e3.pl.q8 u b)) d s h2
structure pE (o:M')(w:P')(hm:Nat)(fs:S')(m:P')(R:Z'):Prop where
 fe:∃C,Fe o C 1 m R/\2*C<=32^(101*hm)
 ok:XD m
 ln:R.length<=100
 wl:∀u∈R,WB w u.2<=WB w m
 KI:UF o fs (fun n=>L8 n/\WB w n<=WB w m) fun φ=>X2 R φ
theorem CT (hB:Std B)(so:TR lo o)(ho:Vt o)(c0:o.length<1000000)(hv:Xu B 22 [.one lo] (.one (.bool true)))(w8:w.length=8)(wp:∀x∈w,0<x){M Vm:Nat}(c8:M<=100000)(a5:∀V,V<=Vm->(allM w V).length<=100)(c5:Vm<=65535)
  {ps:N'} {fs:S'} (a9:VS ps fs) (b5:fs.length<=40) (hf:∀f∈fs,Ew o w M f) (hV:∀f∈fs,WB w (R7 o f)<=Vm) (hn:∀j,j<fs.length->¬pF o fs j) {i:Nat} {f:Z'} {p:PL} (L:fs[i]? =some f) (c1:ps[i]? =some p):
  ∃r R,(XS B fun E _=>∀h,WI E h 84 [.agg [.p p,.p .Xq],.one (.p (.Xn (Ub (Uh ps 0 i)))),.one (.p lo)]=some ⟨.agg [.p r,.p .Xq],[],[],[]⟩)/\PQ r R/\pE o w M fs (R7 o f) R:=by
 have H:=Zk L;obtain⟨m,A,F,hA,c3,c7,c2⟩:=hf f H;have b9:R7 o f=m:=by unfold R7;rw[F.ld]
 have Y:=hV f H;rw[b9]at Y⊢;have il:i<fs.length:=(Zf.1 L).1;have d:∀g∈Uh fs 0 i,g∈fs:=fun g z=>by grind [B7,List.eraseIdx_sublist]
 have a6:=a9.erase i;have O:(Uh fs 0 i).length<=40:=Zx (ru ..) b5;have c4:=Jq (o:=o) w8 wp (V:=WB w m) (by omega) (fs:=Uh fs 0 i) fun g z=>hf g (d g z)
 have ls:=ow (o:=o) w8 wp (WB w m);have rg:=c4.Ik F.m8;have G:((SO o (allM w (WB w m))).filter fun n=>decide (n=m\/WO o n m)).length<=100:=Zx (List.length_filter_le ..) (Zx (Np _) (a5 _ Y));generalize a0:((SO o (allM w (WB w m))).filter fun n=>decide (n=m\/WO o n m))=l at *;have I:∀n∈l,ez w (WB w m) n/\(n=m\/WO o n m):=fun n hn=>by
  rw[<-a0]at hn;obtain⟨a,b⟩:=Yo.1 hn;exact⟨ls.xh n a,of_decide_eq_true b⟩
 have C:=O3 M l;have c6:l.length*M<=100*M:=Zn _ G;obtain⟨D,d1,d2,d3⟩:=F.IM;obtain⟨q,pq,pf⟩:=a9.get L;rw[c1]at pq;cases pq;obtain⟨r,R,Qs,v,pr,y⟩:=lN hB so ho c0 hv a6 O (hf:=M) (fun g z=>by
  obtain⟨U,S,T,b2,-,b8,-⟩:=hf g (d g z);obtain⟨D',k1,k2,k3⟩:=T.IM;exact⟨T.pl,b8,D',S,k1,k2,b2,k3⟩) rg G (fun U g lc q S z b0 b3 b6 u t=>by
  obtain⟨m2,A2,F2,-,-,-,c9⟩:=hf g (d g z);have :U=m2:=F2.uniq b3;subst this;have J:=(I _ b6).1.2;have u8:=F2.pl.q8 u t;rw[W1 w (b0.trans F2.m8.symm)]at J;exact ez.ok (w:=w) (W:=WB w m) ⟨Vr b0 u8,by grind [W1]⟩ w8 wp (by omega)) pf F.pl (fun u t=>by
  rw[<-a0];refine Yo.2 ⟨WS.2 (TF (w8.trans (F.pl.q8 u t).symm) wp (c2 u t)),decide_eq_true ?_⟩;by_cases e:u.2=m
  ·exact .inl e
  ·exact .inr (F.lt t e)) d1 d2 hA d3 (by rw[C];omega)
 have N:∀g∈Uh fs 0 i,∀s,XR o g=some s->Wn s.2 m=false:=fun g z s hs=>by
  rw[B7]at z;obtain⟨j,hj,b7⟩:=List.mem_eraseIdx_iff_getElem?.1 z;cases hd:Wn s.2 m with
  |false=>rfl
  |true=>
   exfalso;refine hn i il ⟨j,g,f,hj,b7,L,?_⟩
   grind [R7]
 have a8:∀g∈Uh fs 0 i,Pl g:=fun g z=>by obtain⟨_,_,T,_⟩:=hf g (d g z);exact T.pl
 have hz:V6 Qs (Uh fs 0 i) (WW m)=0:=by
  have b1:UF o (Uh fs 0 i) (fun n=>L8 n/\WO o n m) (V6 Qs (Uh fs 0 i)):=br (fun _ h=>h) fun k Q g J h2 u t=>by
   obtain⟨lc,U,S,X,a2⟩:=y.up k Q g J h2 u t;have u8:=(y.qp Q (Zk J)).q8 u t;refine⟨lc,U,S,X,u8,Vr u8 X.m8,?_⟩;rcases(I _ a2).2 with e|e
   ·have:=N g (Zk h2) _ X.ld
    grind [Rw,XW]
   ·exact e
  exact b1.top a8 F.m8 fun x hx=>hx.2
 have f1:=(XK F.pl F.ld).1;have Z:SN R m=1:=by
  rw[Wo];have J:=y.eq (WW m);rw[hz,<-Wo,F.pl.SQ.Tj _ f1]at J
  grind
 have b4:(1,m)∈R:=by
  have:=y.pl.SQ.mem (m:=m) (by rw[Z];decide)
  rwa[Z]at this
 have a3:XR o R=some (1,m):=by
  cases hs:XR o R with
  |none=>grind [Td]
  |some s=>
   obtain⟨s1,s2,s3,s4⟩:=XK y.pl hs;rcases s4 _ b4 with e|e
   ·rw[e]
   ·exfalso;rcases(I _ (y.mem s s1).1).2 with h|h
    ·grind [WO.zD]
    ·exact e.asymm F.m8 s2 h
 have a4:S5 o R=R:=by
  unfold S5;rw[a3];have e1:(1:Rat)⁻¹=1:=by grind
  simp_all [X1]
 rw[a4]at pr;obtain⟨D3,C3,z1,z2,z3,z4⟩:=y.sz;have z5:2*C3<=32^(101*M):=Zx z3 (Yt (by decide) (by rw[C];omega));have lR:R.length<=100:=Zx (Pe rg.dc rg.l8 y.pl fun u t=>(y.mem u t).1) G;have w1:=(bJ y.pl z1 z2 z5 (by omega) z4 (by omega) a3).1;have e1:X1 ((1,m):Qm).1⁻¹ R=R:=by
  grind [S5]
 rw[e1]at w1;refine⟨r,R,v.mono fun E K h=>h.2,pr,⟨C3,w1,z5⟩,c3,lR,fun u t=>(I _ (y.mem u t).1).1.2,?_⟩;have a7:∀g∈fs,Pl g:=fun g z=>by obtain⟨_,_,T,_⟩:=hf g z;exact T.pl
 have r1:=UF.one (P:=fun n=>L8 n/\WB w n<=WB w m) a7 H F.ld (m:=zM) (c:=1) rfl (by
  rw[nA F.m8];exact⟨F.m8,Ze _⟩)
 have r2:UF o fs (fun n=>L8 n/\WB w n<=WB w m) (V6 Qs (Uh fs 0 i)):=br d fun k Q g J h2 u t=>by
  obtain⟨lc,U,S,X,a2⟩:=y.up k Q g J h2 u t;exact⟨lc,U,S,X,(y.qp Q (Zk J)).q8 u t,(I _ a2).1⟩
 refine(r1.plus (r2.smul (-1))).congr fun φ=> ?_
 have e2:(X2 f fun k=>φ (Xg zM k))=X2 f φ:=Ua fun u t=>by rw[nA (F.pl.q8 u t)]
 rw[e2,y.eq];grind
end
end Go.Proofs.YtidginchkjhobaaGreat
namespace Go.Proofs.YtidginchkjhobaaGreat
open Go.Ev Go.Num
theorem BD {o:M'}{a b:S'}{P:P'->Prop}(g:∀f∈a,f∈b){v:(P'->Rat)->Rat}(h:UF o a P v):UF o b P v:=by
 induction h with
 |zero e=>exact .zero e
 |add d j i c _ e k=>exact .add (g _ d) j i c k e
theorem qV {o:M'}{b d:S'}{P:P'->Prop}(j:∀f∈b,∀s,XR o f=some s->∀m,L8 m->P (Xg m s.2)->UF o d P fun a=>X2 f fun n=>a (Xg m n)){v:(P'->Rat)->Rat}(h:UF o b P v):UF o d P v:=by
 induction h with
 |zero e=>exact .zero e
 |@add v w f s c m i l k g _ e p=>exact(((j _ i _ l _ k g).smul c).plus p).congr fun a=>by rw[e a];grind
section
variable {B:Xs}{o:M'}{lo:PL}{w:P'}
theorem Mn.of {c:Nat}{f:Z'}(h:Ew o w c f):Mn o f:=by
 obtain⟨m,A,F,-,a,b,-⟩:=h;exact⟨m,F.ld,a,b⟩
theorem pE.mn {b:Nat}{a:S'}{m:P'}{R:Z'}(h:pE o w b a m R):Mn o R/\R7 o R=m:=by
 obtain⟨C,F,-⟩:=h.fe;exact⟨⟨m,F.ld,h.ok,by have:=h.ln;omega⟩,by unfold R7;rw[F.ld]⟩
theorem wF (l:Std B)(q:TR lo o)(m:Vt o)(e:o.length<1000000){D:N'}{j:S'}(i:VS D j)(A:∀g∈j,Mn o g){r:PL}{R:Z'}(F:PQ r R)(y:Mn o R):∀(k:Nat),k<=j.length->∃n,(XS B fun E _=>pD E lo D r k n)/\n<=k
 |0,_=>⟨0,XS.of fun _ _=>.zero,Ze _⟩
 |k+1,hk=>by
  obtain⟨g,f⟩:∃g,j[k]? =some g:=⟨_,Zg (by omega)⟩;obtain⟨p,C,J⟩:=i.get f;have h:=A g (Zk f);obtain⟨I,t⟩:=h.lm;obtain⟨L,u⟩:=y.lm;obtain⟨_,_,_,G⟩:=h;obtain⟨_,_,_,s⟩:=y;have v:=S6 l q m e J (by omega) I;have w:=S6 l q m e F (by omega) L;have x:=lP l q m t u e;cases z:SR (.ofNat 0) (WX o (R7 o g) (R7 o R))with
  |false=>exact⟨k+1,(v.Xk.and (w.Xk.and x.Xk)).mono fun E K ⟨a,b,c⟩=>.stop C t.1 u.1 a b c z,Ze _⟩
  |true=>
   obtain⟨n,H,M⟩:=wF l q m e i A F ⟨_,‹_›,‹_›,s⟩ k (by omega);exact⟨n,(H.and (v.Xk.and (w.Xk.and x.Xk))).mono fun E K ⟨d,a,b,c⟩=>.step C t.1 u.1 a b c z d,by omega⟩
theorem sH (N:Std B)(so:TR lo o)(X:Vt o)(C:o.length<1000000)(hv:Xu B 22 [.one lo] (.one (.bool true)))(w8:w.length=8)(wp:∀x∈w,0<x){D P:Nat}(I:D<=100000)(y:∀V,V<=P->(allM w V).length<=100)(G:P<=65535)
  {F:N'} {e:S'} (s:VS F e) (H:e.length<=40) (O:∀f∈e,Ew o w D f) (hV:∀f∈e,WB w (R7 o f)<=P) (hn:∀j,j<e.length->¬pF o e j):∀(d i:Nat) (z:N') (l:S'),i+d=e.length->VS z l->l.length=i->(∀g∈l,∃f∈e,pE o w D e (R7 o f) g)->(∀(j:Nat) (f:Z'),j<i->e[j]? =some f->∃g∈l,pE o w D e (R7 o f) g)->
  ∃u m,(XS B fun E _=>vR E lo F z i u)/\VS u m/\m.length=e.length/\(∀g∈m,∃f∈e,pE o w D e (R7 o f) g)/\∀f∈e,∃g∈m,pE o w D e (R7 o f) g
 |0,i,z,l,hi,n,hl,h1,h2=>by
  have Z:F.length=e.length:=s.length;refine⟨z,l,XS.of fun _ _=>by rw[show i=F.length by omega];exact .stop,n,by omega,h1,fun f O=> ?_⟩;obtain⟨j,T⟩:=ZB.1 O;exact h2 j f (by have:=(Zf.1 T).1;omega) T
 |d+1,i,z,l,hi,n,hl,h1,h2=>by
  have Z:F.length=e.length:=s.length;obtain⟨f,t⟩:∃f,e[i]? =some f:=⟨_,Zg (by omega)⟩;obtain⟨p,M,-⟩:=s.get t;obtain⟨r,R,v,pr,Q⟩:=CT N so X C hv w8 wp I y G s H O hV hn t M;have Y:=eT N (L:=.Xn (Ub F)) .Xn (by omega) i;obtain⟨k,k1,k2⟩:=wF N so X C n (fun g S=>by obtain⟨f',_,h⟩:=h1 g S;exact h.mn.1) pr Q.mn.1 z.length (by rw[n.length];exact Ze _);have J:VS (z.take k++[r]++z.drop k) (l.take k++[R]++l.drop k):=((n.take k).append (.cons pr .nil)).append (n.drop k);have q:∀g,g∈l.take k++[R]++l.drop k↔g∈l\/g=R:=fun g=>by
   rw[Zq,ZW,ZW,ZS];constructor
   ·rintro (h|h|h)
    ·exact .inl (YC h)
    ·exact .inr h
    ·exact .inl (List.mem_of_mem_drop h)
   ·rintro (h|h)
    ·rw[<-List.take_append_drop k l,ZW]at h;rcases h with h|h
     ·exact .inl h
     ·exact .inr (.inr h)
    ·exact .inr (.inl h)
  have W:=Zk t;obtain⟨u,m,m1,m2,m3,m4,m5⟩:=sH N so X C hv w8 wp I y G s H O hV hn d (i+1) _ _ (by omega) J (by simp;omega) (fun g S=>by
   rcases(q g).1 S with h|rfl
   ·exact h1 g h
   ·exact⟨f,W,Q⟩) (fun j f' T A=>by
   by_cases U:j=i
   ·subst U;rw[t]at A;cases A;exact⟨R,(q R).2 (.inr rfl),Q⟩
   ·obtain⟨g,g1,g2⟩:=h2 j f' (by omega) A;exact⟨g,(q g).2 (.inl g1),g2⟩)
  exact⟨u,m,(m1.and (Y.Xk.and (v.and k1))).mono fun E K ⟨a,b,c,d⟩=>.next M b c d a,m2,m3,m4,m5⟩
theorem Fp (R:w.length=8)(S:∀x∈w,0<x){y W:Nat}{b c l:S'}(J:GB o w W b)(i:∀f∈c,f∈b)(e:∀f∈b,∃g∈c,Wn (R7 o g) (R7 o f)=true)(I:∀f∈b,L8 (R7 o f))(q:∀f∈b,Pl f)(G:∀g∈l,∃f∈c,pE o w y c (R7 o f) g)(H:∀f∈c,∃g∈l,pE o w y c (R7 o f) g):GB o w W l:=by
 intro v N;have t:UF o b (fun n=>L8 n/\WB w n<=W) v:=qV (h:=N) fun g L s M m a K=>by
  obtain⟨f,Q,j⟩:=G g L;obtain⟨C,F,-⟩:=j.fe;have r:s=(1,R7 o f):=by
   have:=F.ld;rw[M]at this;cases this;rfl
  subst r;have P:=BD i j.KI;refine P.shift a q fun n p=>⟨Vr a p.1,?_⟩
  have e1:=K.2;rw[W1 w (a.trans F.m8.symm)]at e1;rw[W1 w (a.trans p.1.symm)];have:=p.2;omega
 rcases J v t with h|⟨δ,f,s,a1,a2,a3,a4,a5,a6⟩
 ·exact .inl h
 ·right;obtain⟨k,A,u⟩:=e f a4;obtain⟨g,B,j⟩:=H k A;obtain⟨C,F,-⟩:=j.fe;refine⟨δ,g,(1,R7 o k),a1,a2,a3,B,F.ld,?_⟩;have d:R7 o f=s.2:=by unfold R7;rw[a5]
  rw[d]at u;have O:=F.m8;have z:L8 s.2:=by rw[<-d];exact I f a4
  have D:=W6 (O.trans z.symm) u;have E:=W6 (z.trans a2.symm) a6;show Wn (R7 o k) δ=true;rw[<-E,<-D,UD];exact Rw ..
theorem vr {ms:List (Nat×Nat)}(G:GA o ms w){d:S'}(c:∀f∈d,Pl f)(D:Dn o w d d.length 0)(W:Nat):GB o w W d:=by
 refine CL G.w8 G.wp c (fun f n g p k s t l m=> ?_) W;obtain⟨a,i⟩:=ZB.1 n;obtain⟨b,e⟩:=ZB.1 p;have q:=(Zf.1 i).1;have r:=(Zf.1 e).1;by_cases j:a<b
 ·exact D a b f g j (.inl r) i e d (fun _ h=>h) c s t l m
 ·have :b<a:=by
   rcases Yx b a with h|h
   ·exact h
   ·have :a=b:=by omega
    subst this;rw[i]at e;cases e;exact absurd rfl k
  exact(D b a g f this (.inl q) e i d (fun _ h=>h) c t s m l).sym
structure tO (o:M')(ms:List (Nat×Nat))(w:P')(hm n Vm:Nat):Prop where
 g:GA o ms w
 hd:∀a b,a+b<=2->(a,b)∈ms
 h1:1<=hm
 h2:hm<=100000
 hn:n<=30
 hb:QY ms (W4 ms) hm n 3 []=true
 hV:∀p∈ms,WB w (m2 p)<=Vm
 num:∀V,V<=Vm->(allM w V).length<=100
 Lu:Vm<=65535
structure K2 (o:M')(w:P')(hm Vm:Nat)(gs:S'):Prop where
 ln:gs.length<=40
 el:∀g∈gs,∃m C,Fe o C 1 m g/\2*C<=32^(101*hm)/\XD m/\g.length<=100/\(∀u∈g,WB w u.2<=WB w m)/\WB w m<=Vm
 gb:∀W,GB o w W gs
theorem vq (z:Std B)(T:TR lo o)(O:Vt o)(l:o.length<1000000)(hv:Xu B 22 [.one lo] (.one (.bool true))){ms:List (Nat×Nat)}{I n J:Nat}(P:tO o ms w I n J){L:PL}{R:N'}{y:S'}(sl:Sl L (Xf R))(x:VS R y)(K:∀f∈y,G2 2 9 3 f)(h3:y.length<=3):
  ∃i u,(XS B fun E _=>∀H,TX E 16 [.one (.p L),.one (.p lo)] H=some (.one (.own H.length i.length 0 i.length),H++[Oh i.length i]))/\VS i u/\K2 o w I J u:=by
 have p2:=P.h2;obtain⟨qs,N,Y,t,n',st,k1,k2,S,D,l0,-⟩:=Ht z T O l hv P.g P.hd (by omega) P.h1 P.hn P.hb x K h3;have q:∀f∈t,Ew o w I f/\WB w (R7 o f)<=J/\∃p∈ms,R7 o f=m2 p:=fun f c=>by
  obtain⟨e,he,r⟩:=S.ft.all f c;obtain⟨A,F,hA⟩:=r.fe;have v:R7 o f=Vi e.a e.b:=by unfold R7;rw[F.ld]
  obtain⟨p,Z,m⟩:=r.Ko _ (XK F.pl F.ld).1;have m:Vi e.a e.b=m2 p:=m;have a0:(32:Nat)^e.h<=32^I:=Yt (by decide) (S.hs e he);refine⟨⟨Vi e.a e.b,A,F,by omega,aw (by have:=r.Iq;omega) (by have:=r.Io;omega),by have:=r.ln;omega,r.wt P.g⟩,?_,p,Z,by rw[v,m]⟩;rw[v,m];exact P.hV p Z
 have d:∀f∈t,Pl f:=fun f c=>by obtain⟨⟨_,_,F,_⟩,_⟩:=q f c;exact F.pl
 have a7:Y.length=t.length:=S.ps.length;obtain⟨M,Q,k,a1,U,s,a4,a5⟩:=jE z T O l t.length 0 Y t (by omega) (by omega) S.ps (fun f c=>Mn.of (q f c).1) (fun j hj=>by omega);have l1:k.length<=40:=Zx s.length_le l0;obtain⟨i,u,b1,V,b3,X,b5⟩:=sH z T O l hv P.g.w8 P.g.wp P.h2 P.num P.Lu U l1 (fun f c=>(q f (s.subset c)).1) (fun f c=>(q f (s.subset c)).2.1) a5 k.length 0 [] [] (by omega) .nil rfl (fun _ h=>by cases h) (fun j f hj=>by omega);have a6:Q.length=k.length:=U.length;have a8:i.length=u.length:=V.length;have a9:R.length=y.length:=x.length;refine⟨i,u,zN z sl (by omega) (by omega) (by omega) k1 k2 a1 b1,V,by omega,fun g K=> ?_,fun W=> ?_⟩
 ·obtain⟨f,c,G⟩:=X g K;obtain⟨C,F,hC⟩:=G.fe;exact⟨R7 o f,C,F,hC,G.ok,G.ln,G.wl,(q f (s.subset c)).2.1⟩
 ·refine Fp P.g.w8 P.g.wp (vr P.g d D W) (fun f c=>s.subset c) a4 (fun f c=> ?_) d X b5;obtain⟨-,-,p,-,m⟩:=q f c;rw[m];rfl
end
end Go.Proofs.YtidginchkjhobaaGreat
