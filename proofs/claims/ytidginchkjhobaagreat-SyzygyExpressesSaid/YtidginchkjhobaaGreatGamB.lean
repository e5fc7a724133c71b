/- Reference: closed ends; what it answers is a Groebner basis. -/
import Derived.Test.YtidginchkjhobaaGreatGam
namespace Go.Ev
open Go.Proofs.YtidginchkjhobaaGreat
def Dn (o:M')(w:P')(fs:S')(k i:Nat):Prop:=
 ∀(a b:Nat) (f g:I'),a<b->(b<k\/(b=k/\a<i))->fs[a]? =some f->fs[b]? =some g->∀gs,(∀f∈fs,f∈gs)->(∀f∈gs,Pl f)->∀s t,XB o f=some s->XB o g=some t->SB o w gs f g s t
theorem Dn.app {o}{w}{c}{k i}(h:Dn o w c k i)(t:k<c.length)(r):Dn o w (c++[r]) k i:=fun a b f g d p l m n j q=>by
 have e:b<c.length:=by omega
 rw[Z9 (by omega)]at l;rw[Z9 e]at m;exact h a b f g d p l m n (fun x s=>j x (List.mem_append_left _ s)) q
theorem nh {o}{f}(b:Pl f){s}(g:XB o f=some s):∃a,(s::a).Perm f/\PO o (s::a):=by
 have c:=W0 o f;have d:=Th (o:=o) b.Sk;cases e:VI o f with
 |nil=>
  rw[e]at c;have:=c.length_eq;have h0:=List.length_pos_of_mem (Xy b g).1;simp at this;omega
 |cons h a=>
  have:=PA b e
  grind
theorem qR {e f}:Fv e f=true↔Pb (VH e.a e.b) (VH f.a f.b)=Ut:=by
 have c:Pb (VH e.a e.b) (VH f.a f.b)=VH (Nat.min e.a f.a) (Nat.min e.b f.b):=rfl
 simp_all [Fv]
section
variable {B:Xq}{o:M'}{lo:PL}{ms:List (Nat×Nat)}{w:P'}
theorem Ll {i}(G:IE o ms w){f g}{e c}(d:Pg o ms e f)(h:Pg o ms c g)(k:f∈i)(l:g∈i)(j:Fv e c=true):SB o w i f g (1,VH e.a e.b) (1,VH c.a c.b):=by
 obtain⟨r,m,n⟩:=nh d.pl d.ld;obtain⟨s,p,q⟩:=nh h.pl h.ld;refine SB.coprime k l d.ld h.ld m p n q (d.wt G) (h.wt G) fun x u=> ?_
 have t:=qR.1 j
 simp_all
structure KH (o:M')(ms:List (Nat×Nat))(hm n:Nat)(st:List El)(ps:N')(fs:S'):Prop where
 pl:pZ ms (Vg ms) hm n st=true
 ft:Fit o ms st fs
 ps:VV ps fs
 hs:∀e∈st,e.h<=hm
theorem ay (U:Std B)(so:SA lo o)(ho:Vq o)(C:o.length<1000000)(hv:Xv B 22 [.one lo] (.one (.bool true)))(G:IE o ms w){hm}(N:hm<=1000000)(k N0)(hN:N0<=40):∀d i n M L m,i+d=k->k<m.length->m.length+n<=N0->KH o ms hm n M L m->Dn o w m k i->
  ∃P A y j,(XT B fun E _=>F8 E lo k L i y)/\m.length<=j.length/\j.length+P<=N0/\KH o ms hm P A y j/\Dn o w j k k/\∀f∈m,f∈j
 |0,i,n,M,L,m,hi,hk,hb,S,D=>by
  have :i=k:=by omega
  subst this;exact⟨n,M,L,m,XT.of fun _ _=>.stop,Zf _,hb,S,D,fun _ h=>h⟩
 |d+1,i,n,M,L,m,hi,hk,hb,S,D=>by
  have Y:i<k:=by omega
  have b5:L.length=m.length:=S.ps.length;have b1:i<m.length:=by omega
  obtain⟨f,hf⟩:∃f,m[i]? =some f:=⟨_,Zd b1⟩;obtain⟨g,hg⟩:∃g,m[k]? =some g:=⟨_,Zd hk⟩;obtain⟨p,hp,pf⟩:=S.ps.get hf;obtain⟨q,hq,qg⟩:=S.ps.get hg;have mf:=Zh hf;have mg:=Zh hg;obtain⟨e,he,Q⟩:=S.ft.all f mf;obtain⟨F,a2,T⟩:=S.ft.all g mg;have b2:XA (VH e.a e.b):=bg (by have:=Q.Kk;omega) (by have:=Q.Kh;omega);have b3:XA (VH F.a F.b):=bg (by have:=T.Kk;omega) (by have:=T.Kh;omega);have h1:=Rk U so ho C pf (by have:=Q.ln;omega) Q.ld;have h2:=Rk U so ho C qg (by have:=T.ln;omega) T.ld;have h3:=AL U b2 b3;have hC:XT B fun E _=>Ky E lo p q (VH e.a e.b) (VH F.a F.b) (Pb (VH e.a e.b) (VH F.a F.b)):=(h1.Xk.and (h2.Xk.and h3.Xk)).mono fun E K ⟨a,b,c⟩=>⟨rfl,rfl,rfl,a,b,c⟩
  have z:∀j,(∀x∈m,x∈j)->j[i]? =some f->j[k]? =some g->Dn o w j k i->(∀I,(∀f∈j,f∈I)->(∀f∈I,Pl f)->SB o w I f g (1,VH e.a e.b) (1,VH F.a F.b))->Dn o w j k (i+1):=fun j _ a8 a9 D' h=>by
   intro a b f1 g1 a7 hb W X I u b0 s t hs ht;by_cases a4:b=k/\a=i
   ·obtain⟨rfl,rfl⟩:=a4;rw[a8]at W;cases W;rw[a9]at X;cases X;rw[Q.ld]at hs;cases hs;rw[T.ld]at ht;grind
   ·exact D' a b f1 g1 a7 (by omega) W X I u b0 s t hs ht
  cases hc:Fv e F with
  |true=>
   have D1:=z m (fun _ h=>h) hf hg D fun I u _=>Ll G Q T (u f mf) (u g mg) hc
   obtain⟨P,A,y,j,k1,k2,k3,k4,k5,k6⟩:=ay U so ho C hv G N k N0 hN d (i+1) n M L m (by omega) hk hb S D1;exact⟨P,A,y,j,(k1.and hC).mono fun E K ⟨a,b⟩=>.skip hp hq Y (by omega) b (qR.1 hc) a,k2,k3,k4,k5,k6⟩
  |false=>
   have hz:Pb (VH e.a e.b) (VH F.a F.b)≠Ut:=fun h=>by grind [qR]
   cases n with
   |zero=>have:=S.pl;simp[pZ]at this
   |succ n=>
    have v:=S.pl;unfold pZ at v;cases ha:FH M ms (Vg ms) M 0 0 with
    |none=>grind
    |some HR=>
     obtain⟨H,R⟩:=HR;rw[ha]at v;simp only[Zs]at v;obtain⟨hH,Z⟩:=v;have a1:H<=hm:=Nat.le_of_ble_eq_true hH;have a0:=(oM ha).2.2 e he F a2;obtain⟨s,r,R0,s1,s2,s3,s4,s5⟩:=AX U so ho C hv G S.ft S.ps (by omega) S.hs N a1 pf qg mf mg Q T he a2 a0 hc;by_cases hR:R0=[]
     ·subst hR;have D1:=z m (fun _ h=>h) hf hg D fun I u hp=>s5 I u (fun h=>absurd rfl h) hp
      obtain⟨P,A,y,j,k1,k2,k3,k4,k5,k6⟩:=ay U so ho C hv G N k N0 hN d (i+1) (n+1) M L m (by omega) hk hb S D1;obtain⟨es,sl,V⟩:=s3;cases V;exact⟨P,A,y,j,(k1.and (hC.and (s1.Xk.and s2))).mono fun E K ⟨a,b,c,d⟩=>.zero hp hq Y (by omega) b hz c d sl a,k2,k3,k4,k5,k6⟩
     ·obtain⟨e2,a3,a6⟩:=s4.resolve_left hR;have O:=lG Z e2 a3;have b4:e2.h<=hm:=by
       have :∀{l:List (Nat×Nat)},e2∈kids H R l->e2.h=H:=fun{l}=>by
        induction l with
        |nil=>intro h;cases h
        |cons x l ih=>
         intro h;obtain⟨xa,xb⟩:=x;unfold kids at h
         grind
       rw[this a3];exact a1
      have S2:KH o ms hm n (M++[e2]) (L++[r]) (m++[R0]):=⟨O,S.ft.snoc a6,S.ps.append (.cons s3 .nil),fun x J=>by
       rcases ZS.1 J with J|J
       ·exact S.hs x J
       grind⟩
      have D1:=z (m++[R0]) (fun x J=>List.mem_append_left _ J) (by grind) (by grind) (D.app hk R0) fun I u hp=>s5 I (fun x J=>u x (List.mem_append_left _ J)) (fun _=>u R0 (List.mem_append_right _ (Yj.2 rfl))) hp
      obtain⟨P,A,y,j,k1,k2,k3,k4,k5,k6⟩:=ay U so ho C hv G N k N0 hN d (i+1) n (M++[e2]) (L++[r]) (m++[R0]) (by omega) (by grind) (by grind) S2 D1;obtain⟨es,sl,V⟩:=s3;have a5:0<es.length:=by
       rw[V.length]
       grind
      exact⟨P,A,y,j,(k1.and (hC.and (s1.Xk.and s2))).mono fun E K ⟨a,b,c,d⟩=>.new hp hq Y (by omega) b hz c d sl a5 a,by grind,k3,k4,k5,fun x J=>k6 x (List.mem_append_left _ J)⟩
theorem lB (J:Std B)(Q:SA lo o)(M:Vq o)(p:o.length<1000000)(O:Xv B 22 [.one lo] (.one (.bool true)))(G:IE o ms w){y}(m:y<=1000000)(i)(L:i<=40):∀d k n r j e,k+d=i->k<=e.length->e.length+n<=i->KH o ms y n r j e->Dn o w e k 0->
  ∃N P F q c,(XT B fun E _=>IJ E lo N j k q)/\c.length+P<=i/\KH o ms y P F q c/\Dn o w c c.length 0/\∀f∈e,f∈c
 |d,k,n,r,j,e,hd,hk,u,S,D=>by
  have z:j.length=e.length:=S.ps.length;by_cases x:k=e.length
  ·subst x;refine⟨0,n,r,j,e,XT.of fun _ _=>by rw[<-z];exact .stop,u,S,D,fun _ h=>h⟩
  ·cases d with
   |zero=>omega
   |succ d=>
    obtain⟨n1,H,A,l,U,k2,V,W,X,Y⟩:=ay J Q M p O G m k i L k 0 n r j e (by omega) (by omega) u S D;have R:Dn o w l (k+1) 0:=fun a b f g t u v T=>X a b f g t (by omega) v T
    obtain⟨N,n2,I,C,s,Z,m2,m3,m4,m5⟩:=lB J Q M p O G m i L d (k+1) n1 H A l (by omega) (by omega) V W R;exact⟨N+1,n2,I,C,s,(Z.and U).mono fun E K ⟨a,b⟩=>.next (by omega) (by omega) b a,m2,m3,m4,fun f v=>m5 f (Y f v)⟩
end
def Mt (e f:El):Bool:=Nat.beq e.a f.a&&Nat.beq e.b f.b&&Nat.beq e.t f.t&&Nat.beq e.h f.h
theorem J5 {e f}(h:Mt e f=true):e=f:=by
 obtain⟨a,b,c,d⟩:=e;obtain⟨g,i,j,k⟩:=f;unfold Mt at h;simp only[Zs,Nat.beq_eq]at h;obtain⟨⟨⟨rfl,rfl⟩,rfl⟩,rfl⟩:=h;rfl
def ED (e:El):List El->Bool
 |[]=>false
 |f::st=>bif Mt f e then true else ED e st
theorem uq {e}:∀{a},ED e a=true->e∈a
 |[],h=>by cases h
 |f::a,h=>by
  unfold ED at h;cases b:Mt f e with
  |true=>rw[J5 b];exact Zc ..
  |false=>rw[b]at h;exact Za _ (uq h)
def qL:Nat:=Vg [(2,0),(1,1),(0,2),(1,0),(0,1),(0,0)]
def Pd (ms:List (Nat×Nat))(M hm n:Nat):Nat->List El->Bool
 |0,st=>pZ ms M hm n st
 |m+1,st=>bif pZ ms M hm n st then FI (fun e=>bif ED e st then true else Pd ms M hm n m (st++[e])) (kids 1 qL ms)else false
theorem ND {o}{ms}{g n}:∀{d fs} {m} {a},Pd ms (Vg ms) g n m a=true->Fit o ms a fs->d.length<=m->(∀r∈d,∃e∈kids 1 qL ms,Pg o ms e r)->(∀e∈a,e.h<=1)->(∀e∈kids 1 qL ms,e.h<=1)->∃c,pZ ms (Vg ms) g n c=true/\Fit o ms c (fs++d)/\∀e∈c,e.h<=1
 |[],fs,m,a,hb,ft,_,_,hs,_=>by
  rw[ZJ];refine⟨a,?_,ft,hs⟩;cases m with
  |zero=>exact hb
  |succ m=>
   unfold Pd at hb;cases i:pZ ms (Vg ms) g n a with
   |true=>rfl
   |false=>rw[i]at hb;cases hb
 |r::d,fs,m,a,hb,ft,hl,s,hs,hk=>by
  cases m with
  |zero=>simp at hl
  |succ m=>
   simp only[Zj,Nat.add_le_add_iff_right]at hl;obtain⟨e,p,k⟩:=s r (Zc ..);have f:=fun x b=>s x (Za _ b)
   have e1:fs++r::d=(fs++[r])++d:=by simp
   rw[e1];have j:=hb;unfold Pd at hb;cases i:pZ ms (Vg ms) g n a with
   |false=>rw[i]at hb;cases hb
   |true=>
    rw[i,cond_true]at hb;have l:=lG hb e p;cases q:ED e a with
    |false=>
     simp only[q,cond_false]at l;exact ND l (ft.snoc k) hl f (fun x b=>by
      rcases ZS.1 b with b|b
      ·exact hs x b
      ·rw[Yj.1 b];exact hk e p) hk
    |true=>
     exact ND j (ft.dup k (uq q)) (by omega) f hs hk
theorem wV {H R}{e}:∀{l},e∈kids H R l->e.h=H
 |[],h=>by cases h
 |(xa,xb)::l,h=>by
  unfold kids at h;cases a:Nat.testBit R (SM xa xb)with
  |false=>rw[a]at h;exact wV h
  |true=>
   rw[a]at h;rcases Zk.1 h with rfl|h
   ·rfl
   ·exact wV h
theorem Gm {o}{ms e a}(b:FY o (ms.map m2)){d p:Nat×Nat}(i:ms=e++d::a)(f:p∈ms)(c:Wz o (m2 p) (m2 d)):p∈a:=by
 rw[i]at f b;rw[List.map_append,Zt]at b;have g:=(List.pairwise_append.1 b).2.2;rcases ZS.1 f with h|h
 ·exact absurd (g (m2 p) (ZM.2 ⟨p,h,rfl⟩) (m2 d) (Zc ..)) fun k=>k.asymm rfl rfl c
 grind [Wz.vD]
theorem zF {a b}(h:a+b<=2):Nat.testBit qL (SM a b)=true:=by
 unfold qL;rw[NP];have :(a=0/\b=0)\/(a=0/\b=1)\/(a=0/\b=2)\/(a=1/\b=0)\/(a=1/\b=1)\/(a=2/\b=0):=by omega
 rcases this with⟨rfl,rfl⟩|⟨rfl,rfl⟩|⟨rfl,rfl⟩|⟨rfl,rfl⟩|⟨rfl,rfl⟩|⟨rfl,rfl⟩<;>first |exact⟨(0,0),by simp,rfl⟩|exact⟨(0,1),by simp,rfl⟩|exact⟨(0,2),by simp,rfl⟩|exact⟨(1,0),by simp,rfl⟩|exact⟨(1,1),by simp,rfl⟩|exact⟨(2,0),by simp,rfl⟩
def G1 (o:M'):S'->S'
 |[]=>[]
 |f::fs=>match f with
  |[]=>G1 o fs
  |t::ts=>Ri o (t::ts)::G1 o fs
theorem yG (o):∀a,(G1 o a).length<=a.length
 |[]=>Zf _
 |f::a=>by
  have:=yG o a;cases f with
  |nil=>grind [G1]
  |cons t b=>grind [G1]
section
variable {B:Xq}{o:M'}{lo:PL}{ms:List (Nat×Nat)}{w:P'}
theorem Hu (r:xX o ms)(D:∀a b,a+b<=2->(a,b)∈ms){f}(I:G2 2 9 3 f)(x:f≠[]):∃s,XB o f=some s/\Ri o f=X2 s.1⁻¹ f/\Sq s.1/\Sq s.1⁻¹/\∃e∈kids 1 qL ms,Pg o ms e (X2 s.1⁻¹ f):=by
 obtain⟨g,v⟩:=I;cases w:XB o f with
 |none=>grind [Vy]
 |some s=>
  obtain⟨K,O,P,Q⟩:=Xy g.pl w;have G:W8 1 9 f:=fun t q=>by
   obtain⟨z,S,N⟩:=g.cf t q;exact⟨z,by grind,N⟩
  have E:=g.len;obtain⟨w1,L,M⟩:=cG (h:=1) g.pl (by omega) (by omega) (by decide) (by omega) G (by omega) w;obtain⟨a,b,F,m⟩:=v s K;have y:s.2=VH a b:=F;have k:=D a b m;obtain⟨J,B,i⟩:=List.append_of_mem k;have n:=kj (H:=1) (R:=qL) i (zF m);refine⟨s,rfl,by unfold Ri;rw[w],L,M,_,n,⟨9,by grind,show 2*9<=32^1 by decide⟩,fun u A x=> ?_,(r.lt _ k).1,(r.lt _ k).2,by grind [X2],fun u A=> ?_⟩
  ·obtain⟨t,q,e1,-⟩:=T8 A;obtain⟨c,d,C,j⟩:=v t q;have l:t.2=VH c d:=C;have p:Wz o t.2 s.2:=by
    grind
   rw[l,y]at p;refine⟨c,d,by rw[e1,l],by omega,by omega,?_⟩;show Nat.testBit (Nat.land qL (Vg B)) _=true;rw[ye,zF j,Bool.true_and,NP];exact⟨(c,d),Gm r.dc i (D c d j) p,rfl⟩
  ·obtain⟨t,q,e1,-⟩:=T8 A;obtain⟨c,d,C,j⟩:=v t q
   grind
theorem nI (y:Std B)(I:SA lo o)(D:Vq o)(i:o.length<1000000)(u:xX o ms)(A:∀a b,a+b<=2->(a,b)∈ms):∀{n} {g},VV n g->(∀f∈g,G2 2 9 3 f)->∃k,(XT B fun E _=>Pe E lo n k)/\VV k (G1 o g)/\∀f∈G1 o g,∃e∈kids 1 qL ms,Pg o ms e f
 |[],[],.nil,_=>⟨[],XT.of fun _ _=>.nil,.nil,fun _ h=>by cases h⟩
 |p::n,f::g,.cons hp h,hg=>by
  obtain⟨k,F,G,H⟩:=nI y I D i u A h fun x d=>hg x (Za _ d)
  have l:=hg f (Zc ..);cases f with
  |nil=>
   obtain⟨v,r,c⟩:=hp;cases c;exact⟨k,F.mono fun E K e=>.skip r e,G,H⟩
  |cons t Q=>
   obtain⟨s,C,J,O,P,e,L,w⟩:=Hu u A l (by simp);have m:Sz (t::Q):=fun x d=>by
    obtain⟨z,R,S⟩:=l.1.cf x d
    grind [Sq.int]
   have M:=l.1.len;obtain⟨q,N,m2⟩:=kC y I D i hp (by omega) m C (Xy l.1.pl C).2.2.1 P O;rw[<-J]at m2 w;obtain⟨v,r,c⟩:=hp;have j:0<v.length:=by rw[c.length];simp
   refine⟨q::k,(F.and N.Xk).mono fun E K ⟨a,b⟩=>.new r j b a,.cons m2 G,fun x d=> ?_⟩;rcases Zk.1 d with rfl|d
   ·exact⟨e,L,w⟩
   ·exact H x d
theorem Jt (u:Std B)(y:SA lo o)(v:Vq o)(j:o.length<1000000)(J:Xv B 22 [.one lo] (.one (.bool true)))(G:IE o ms w)(H:∀a b,a+b<=2->(a,b)∈ms){l n}(q:l<=1000000)(p:1<=l)(V:n<=30)(D:Pd ms (Vg ms) l n 3 []=true)
  {x} {fs} (r:VV x fs) (I:∀f∈fs,G2 2 9 3 f) (T:fs.length<=3):
  ∃k N c d s i,(XT B fun E _=>Pe E lo x k)/\(XT B fun E _=>IJ E lo N k 0 c)/\KH o ms l s i c d/\Dn o w d d.length 0/\d.length<=40/\∀f∈G1 o fs,f∈d:=by
 obtain⟨k,K,L,M⟩:=nI u y v j G.bx H r I;have U:=yG o fs;obtain⟨S,z,t,A⟩:=ND (fs:=[]) D (Fit.nil o ms) (by omega) M (fun _ h=>by cases h) fun e m=>Yv (wV m)
 rw[ZB]at t;obtain⟨N,s,i,c,d,O,m2,P,Q,R⟩:=lB u y v j J G q 40 (by omega) 40 0 n S k (G1 o fs) (by omega) (by omega) (by omega) ⟨z,t,L,fun e m=>Zy (A e m) p⟩ (fun a b f g C F=>by omega);exact⟨k,N,c,d,s,i,K,O,P,Q,by omega,R⟩
end
def QT (o:M')(f:I'):P':=match XB o f with
 |some s=>s.2
 |none=>[]
theorem jO {n}{a}:∀{ms} {i},RZ ms i a n=true↔∃(j:Nat) (m:P'),ms[j]? =some m/\i+j≠a/\Ww m n=true
 |[],i=>by
  constructor
  ·intro h;cases h
  grind
 |m::ms,i=>by
  unfold RZ;by_cases b:i≠a/\Ww m n=true
  ·rw[if_pos b];exact⟨fun _=>⟨0,m,rfl,b.1,b.2⟩,fun _=>rfl⟩
  ·rw[if_neg b,jO (ms:=ms)];constructor
   ·rintro ⟨j,d,e,f,c⟩;exact⟨j+1,d,by grind,by omega,c⟩
   grind
theorem yM {b:Type}:∀(l:List b) (i a:Nat),a<i->Un l i a=l
 |[],_,_,_=>rfl
 |x::l,i,a,h=>by
  unfold Un;rw[if_neg (by omega),yM l (i+1) a (by omega)]
theorem jH {b:Type}:∀(l:List b) (i a:Nat),i<=a->Un l i a=l.eraseIdx (a-i)
 |[],_,_,_=>by simp[Un]
 |x::l,i,a,h=>by
  unfold Un;by_cases e:i=a
  ·subst e
   grind [yM]
  ·rw[if_neg e,jH l (i+1) a (by omega)];have :a-i=(a-(i+1))+1:=by omega
   rw[this];rfl
theorem D4 {b:Type}(l:List b)(a:Nat):Un l 0 a=l.eraseIdx a:=by grind [jH]
theorem VV.erase {c:N'}{b:S'}(h:VV c b)(a:Nat):VV (Un c 0 a) (Un b 0 a):=by
 rw[D4,D4,List.eraseIdx_eq_take_drop_succ,List.eraseIdx_eq_take_drop_succ];exact(h.take a).append (h.drop (a+1))
def rl (o:M')(fs:S')(j:Nat):Prop:=∃(i:Nat) (f g:I'),i≠j/\fs[i]? =some f/\fs[j]? =some g/\Ww (QT o f) (QT o g)=true
theorem tJ {o}{b}{j}{g}(e:b[j]? =some g):RZ (b.map (QT o)) 0 j (QT o g)=true↔rl o b j:=by
 rw[jO];constructor
 ·rintro ⟨i,m,a,h,c⟩;rw[ZR]at a;cases d:b[i]? with
  |none=>rw[d]at a;cases a
  |some f=>rw[d]at a;cases a;exact⟨i,f,g,by omega,d,e,c⟩
 ·rintro ⟨i,f,l,a,h,c,k⟩;rw[e]at c;cases c;exact⟨i,QT o f,by grind,by omega,k⟩
theorem rl.erase {o}{d}{a j}(m:j<a)(h:rl o (d.eraseIdx a) j):rl o d j:=by
 obtain⟨i,f,g,l,b,c,e⟩:=h;rw[List.getElem?_eraseIdx]at b c;rw[if_pos m]at c;by_cases k:i<a
 ·rw[if_pos k]at b;exact⟨i,f,g,l,b,c,e⟩
 ·rw[if_neg k]at b;exact⟨i+1,f,g,by omega,b,c,e⟩
section
variable {B:Xq}{o:M'}{lo:PL}
def Mn (o:M')(f:I'):Prop:=∃m,XB o f=some (1,m)/\XA m/\f.length<=200
theorem Mn.lm {f}(h:Mn o f):XB o f=some (1,QT o f)/\XA (QT o f):=by
 obtain⟨m,a,b,-⟩:=h
 grind [QT]
theorem ua (g:Std B)(j:SA lo o)(i:Vq o)(c:o.length<1000000):∀{e} {d},VV e d->(∀f∈d,Mn o f)->XT B fun E _=>FU E lo e (d.map (QT o))
 |[],[],.nil,_=>XT.of fun _ _=>.nil
 |p::e,f::d,.cons hp h,hf=>by
  have r:=ua g j i c h fun x q=>hf x (Za _ q)
  obtain⟨m,k,l,n⟩:=hf f (Zc ..);obtain⟨s,t⟩:=Mn.lm ⟨m,k,l,n⟩;have:=Rk g j i c hp (by omega) s;exact(r.and this.Xk).mono fun E K ⟨a,b⟩=>.cons ⟨t.1,b⟩ a
theorem kM (r:Std B)(S:SA lo o)(I:Vq o)(q:o.length<1000000):∀(d a:Nat) (k:N') (b:S'),b.length=a+d->b.length<=1000->VV k b->(∀f∈b,Mn o f)->(∀j,j<a->¬rl o b j)->
  ∃N h c,(XT B fun E _=>rp E lo N k a h)/\VV h c/\c.Sublist b/\(∀f∈b,∃g∈c,Ww (QT o g) (QT o f)=true)/\∀j,j<c.length->¬rl o c j
 |0,a,k,b,hl,_,hps,hm,hn=>by
  have O:k.length=b.length:=hps.length;have :a=k.length:=by omega
  subst this;refine⟨0,k,b,XT.of fun _ _=>.stop,hps,.refl _,fun f p=>⟨f,p,?_⟩,fun j t=>hn j (by omega)⟩;have h8:=(Mn.lm (hm f p)).2.1;have:=TW (QT o f) zM
  grind [XL,Qk]
 |d+1,a,k,b,hl,hl2,hps,hm,hn=>by
  have O:k.length=b.length:=hps.length;obtain⟨g,X⟩:∃g,b[a]? =some g:=⟨_,Zd (by omega)⟩;have F:=ua r S I q hps hm;have H:∀m∈b.map (QT o),XA m:=fun m G=>by
   obtain⟨f,p,rfl⟩:=ZM.1 G
   simp_all [Mn.lm]
  have l:=BA r (L:=.Xl (Ue k)) .Xl (by omega) F H (a:=a) (n:=QT o g) (by grind);by_cases W:rl o b a
  ·have hT:=(tJ X).2 W;rw[hT]at l;have J:=gj r (L:=.Xl (Ue k)) .Xl (by omega) a;have M:=hps.erase a;have e1:=D4 b a;have A:(Un b 0 a).length=a+d:=by grind
   have e:(Un b 0 a).Sublist b:=by grind
   obtain⟨N,h,c,P,Q,u,v,R⟩:=kM r S I q d a (Un k 0 a) (Un b 0 a) A (by omega) M (fun f p=>hm f (e.subset p)) fun j t V=>hn j t (by rw[e1]at V;exact V.erase t)
   refine⟨N+1,h,c,(P.and (l.Xk.and J.Xk)).mono fun E K ⟨x,y,z⟩=>.drop (by omega) y z x,Q,u.trans e,fun f p=> ?_,R⟩;by_cases C:f∈Un b 0 a
   ·exact v f C
   ·obtain⟨i,w,g1,c1,c2,c3,c4⟩:=W;rw[X]at c3;cases c3;have s:w∈Un b 0 a:=by grind [List.mem_eraseIdx_iff_getElem?]
    obtain⟨T,U,Z⟩:=v w s;have D:f=g:=by
     grind [Zv,List.mem_eraseIdx_iff_getElem?]
    subst D;have l1:=(Mn.lm (hm T (e.subset (u.subset U)))).2.1;have Y:=(Mn.lm (hm w (e.subset s))).2.1;have l3:=(Mn.lm (hm f p)).2.1;refine⟨T,U,?_⟩;have e3:=WD (l1.trans Y.symm) Z;have e4:=WD (Y.trans l3.symm) c4
    grind [Vj,TW]
  ·have hF:RZ (b.map (QT o)) 0 a (QT o g)=false:=by
    grind [tJ]
   rw[hF]at l;obtain⟨N,h,c,P,Q,u,v,R⟩:=kM r S I q d (a+1) k b (by omega) hl2 hps hm fun j t=>by
    grind
   exact⟨N+1,h,c,(P.and l.Xk).mono fun E K ⟨x,y⟩=>.VS (by omega) (by omega) y x,Q,u,v,R⟩
end
theorem No {o}{m}:∀{a} {i j},WW o m a i=some j->∃f s,a[j-i]? =some f/\XB o f=some s/\Ww s.2 m=true
 |[],_,_,h=>by cases h
 |f::a,i,j,h=>by
  unfold WW at h;have c:WW o m a (i+1)=some j->∃b s,(f::a)[j-i]? =some b/\XB o b=some s/\Ww s.2 m=true:=fun h=>by
   have e:=eZ h;obtain⟨b,s,d,g,k⟩:=No h
   grind
  cases l:XB o f with
  |none=>grind
  |some s=>
   grind
def Ew (o:M')(w:P')(hm:Nat)(f:I'):Prop:=∃m A,Fe o A 1 m f/\2*A<=32^hm/\XA m/\f.length<=200/\∀u∈f,Wu w u.2<=Wu w m
theorem Fe.uniq {o}{A B}{c d}{m n}{f}(h:Fe o A c m f)(k:Fe o B d n f):n=m:=by
 have:=k.ld;rw[h.ld]at this
 grind
theorem Fe.LK {o}{A}{m}{f}(F:Fe o A 1 m f):∃D,0<D/\D<=A/\W8 D A f:=by
 obtain⟨D,a,b,c,d⟩:=F.cf;refine⟨D,a,b,fun u e=> ?_⟩
 grind
theorem Nv (c):∀l,V9 (fun _=>c) l=l.length*c
 |[]=>by simp[V9]
 |n::l=>by simp only[V9,Nv c l,Zj,Nat.succ_mul];omega
section
variable {B:Xq}{o:M'}{lo:PL}{w:P'}
theorem Ln (j:w.length=8)(k:∀x∈w,0<x){V}(z:V<=65535){q}{fs}(B:∀f∈fs,Ew o w q f):Rg o fs (fun _=>q) (TQ o (allM w V)):=by
 have g:=jW (o:=o) j k V;refine⟨g.dc,fun n C=>(g.wY n C).ok j k z,fun a e=> ?_⟩;cases c:WW o a fs 0 with
 |none=>exact .inl rfl
 |some i=>
  right;obtain⟨f,s,l,H,p⟩:=No c;obtain⟨m,A,F,y,G,-,d⟩:=B f (Zh l);have E:s=(1,m):=by
   have:=F.ld
   grind
  subst E;refine⟨i,f,1,m,A,rfl,l,F,y,p,fun u r _=> ?_⟩;have b:=g.wY a e;have h:=Va b.1 F.m8;have D:Xg (XO a m) m=a:=by rw[XL];exact WD (F.m8.trans b.1.symm) p
  have t:=F.pl.q8 u r;refine WU.2 (To (j.trans (Wo h t).symm) k ?_);rw[Wr w (h.trans t.symm)];have I:=d u r;have v:=b.2;rw[<-D,Wr w (h.trans F.m8.symm)]at v;omega
theorem Rg.Ke {p}{c}{l}(h:Rg o p c l){L}(s:L8 L):Rg o p c (l.filter fun n=>decide (n=L\/Wz o n L)):=by
 refine⟨h.dc.sublist List.filter_sublist,fun n t=>h.ok n (Yh.1 t).1,fun j g=> ?_⟩;obtain⟨k,r⟩:=Yh.1 g;rcases h.dv j k with e|⟨i,f,lc,m,A,e1,e2,e3,e4,e5,e6⟩
 ·exact .inl e
 ·refine .inr ⟨i,f,lc,m,A,e1,e2,e3,e4,e5,fun u b a=>Yh.2 ⟨e6 u b a,decide_eq_true (.inr ?_)⟩⟩;have d:=h.l8 j k;have q:=Va d e3.m8;have:=(e3.lt b a).add q (e3.pl.q8 u b) e3.m8;rw[XL (XO j m) m,WD (e3.m8.trans d.symm) e5]at this;rcases of_decide_eq_true r with h2|h2
  ·grind
  ·exact this.trans (Wo q (e3.pl.q8 u b)) d s h2
structure rk (o:M')(w:P')(hm:Nat)(fs:S')(m:P')(R:I'):Prop where
 fe:∃C,Fe o C 1 m R/\2*C<=32^(101*hm)
 ok:XA m
 ln:R.length<=100
 wl:∀u∈R,Wu w u.2<=Wu w m
 MM:UP o fs (fun n=>L8 n/\Wu w n<=Wu w m) fun φ=>XZ R φ
theorem EX (hB:Std B)(so:SA lo o)(ho:Vq o)(c0:o.length<1000000)(hv:Xv B 22 [.one lo] (.one (.bool true)))(w8:w.length=8)(wp:∀x∈w,0<x){M Vm:Nat}(c8:M<=100000)(a5:∀V,V<=Vm->(allM w V).length<=100)(c5:Vm<=65535)
  {ps:N'} {fs:S'} (a9:VV ps fs) (b5:fs.length<=40) (hf:∀f∈fs,Ew o w M f) (hV:∀f∈fs,Wu w (QT o f)<=Vm) (hn:∀j,j<fs.length->¬rl o fs j) {i:Nat} {f:I'} {p:PL} (L:fs[i]? =some f) (c1:ps[i]? =some p):
  ∃r R,(XT B fun E _=>∀h,WX E h 84 [.agg [.p p,.p .Xp],La4 (.Xl (Ue (Un ps 0 i))),La4 lo]=some ⟨.agg [.p r,.p .Xp],[],[],[]⟩)/\PQ r R/\rk o w M fs (QT o f) R:=by
 have H:=Zh L;obtain⟨m,A,F,hA,c3,c7,c2⟩:=hf f H;have b9:QT o f=m:=by unfold QT;rw[F.ld]
 have Y:=hV f H;rw[b9]at Y⊢;have il:i<fs.length:=(Zg.1 L).1;have d:∀g∈Un fs 0 i,g∈fs:=fun g z=>by grind [D4,List.eraseIdx_sublist]
 have a6:=a9.erase i;have O:(Un fs 0 i).length<=40:=Zy (tF ..) b5;have c4:=Ln (o:=o) w8 wp (V:=Wu w m) (by omega) (fs:=Un fs 0 i) fun g z=>hf g (d g z)
 have ls:=jW (o:=o) w8 wp (Wu w m);have rg:=c4.Ke F.m8;have G:((TQ o (allM w (Wu w m))).filter fun n=>decide (n=m\/Wz o n m)).length<=100:=Zy (List.length_filter_le ..) (Zy (Pn _) (a5 _ Y));generalize a0:((TQ o (allM w (Wu w m))).filter fun n=>decide (n=m\/Wz o n m))=l at *;have I:∀n∈l,QJ w (Wu w m) n/\(n=m\/Wz o n m):=fun n hn=>by
  rw[<-a0]at hn;obtain⟨a,b⟩:=Yh.1 hn;exact⟨ls.wY n a,of_decide_eq_true b⟩
 have C:=Nv M l;have c6:l.length*M<=100*M:=Zm _ G;obtain⟨D,d1,d2,d3⟩:=F.LK;obtain⟨q,pq,pf⟩:=a9.get L;rw[c1]at pq;cases pq;obtain⟨r,R,Qs,v,pr,y⟩:=nv hB so ho c0 hv a6 O (hf:=M) (fun g z=>by
  obtain⟨U,S,T,b2,-,b8,-⟩:=hf g (d g z);obtain⟨D',k1,k2,k3⟩:=T.LK;exact⟨T.pl,b8,D',S,k1,k2,b2,k3⟩) rg G (fun U g lc q S z b0 b3 b6 u t=>by
  obtain⟨m2,A2,F2,-,-,-,c9⟩:=hf g (d g z);have :U=m2:=F2.uniq b3;subst this;have J:=(I _ b6).1.2;have u8:=F2.pl.q8 u t;rw[Wr w (b0.trans F2.m8.symm)]at J;exact QJ.ok (w:=w) (W:=Wu w m) ⟨Wo b0 u8,by grind [Wr]⟩ w8 wp (by omega)) pf F.pl (fun u t=>by
  rw[<-a0];refine Yh.2 ⟨WU.2 (To (w8.trans (F.pl.q8 u t).symm) wp (c2 u t)),decide_eq_true ?_⟩;by_cases e:u.2=m
  ·exact .inl e
  ·exact .inr (F.lt t e)) d1 d2 hA d3 (by rw[C];omega)
 have N:∀g∈Un fs 0 i,∀s,XB o g=some s->Ww s.2 m=false:=fun g z s hs=>by
  rw[D4]at z;obtain⟨j,hj,b7⟩:=List.mem_eraseIdx_iff_getElem?.1 z;cases hd:Ww s.2 m with
  |false=>rfl
  |true=>
   exfalso;refine hn i il ⟨j,g,f,hj,b7,L,?_⟩
   grind [QT]
 have a8:∀g∈Un fs 0 i,Pl g:=fun g z=>by obtain⟨_,_,T,_⟩:=hf g (d g z);exact T.pl
 have hz:WA Qs (Un fs 0 i) (WJ m)=0:=by
  have b1:UP o (Un fs 0 i) (fun n=>L8 n/\Wz o n m) (WA Qs (Un fs 0 i)):=cc (fun _ h=>h) fun k Q g J h2 u t=>by
   obtain⟨lc,U,S,X,a2⟩:=y.up k Q g J h2 u t;have u8:=(y.qp Q (Zh J)).q8 u t;refine⟨lc,U,S,X,u8,Wo u8 X.m8,?_⟩;rcases(I _ a2).2 with e|e
   ·have:=N g (Zh h2) _ X.ld
    grind [TW,XL]
   ·exact e
  exact b1.top a8 F.m8 fun x hx=>hx.2
 have f1:=(Xy F.pl F.ld).1;have Z:TD R m=1:=by
  rw[Wm];have J:=y.eq (WJ m);rw[hz,<-Wm,F.pl.Sk.U4 _ f1]at J
  grind
 have b4:(1,m)∈R:=by
  have:=y.pl.Sk.mem (m:=m) (by rw[Z];decide)
  rwa[Z]at this
 have a3:XB o R=some (1,m):=by
  cases hs:XB o R with
  |none=>grind [Vy]
  |some s=>
   obtain⟨s1,s2,s3,s4⟩:=Xy y.pl hs;rcases s4 _ b4 with e|e
   ·rw[e]
   ·exfalso;rcases(I _ (y.mem s s1).1).2 with h|h
    ·grind [Wz.vD]
    ·exact e.asymm F.m8 s2 h
 have a4:Ri o R=R:=by
  unfold Ri;rw[a3];have e1:(1:Rat)⁻¹=1:=by grind
  simp_all [X2]
 rw[a4]at pr;obtain⟨D3,C3,z1,z2,z3,z4⟩:=y.sz;have z5:2*C3<=32^(101*M):=Zy z3 (Z5 (by decide) (by rw[C];omega));have lR:R.length<=100:=Zy (Pw rg.dc rg.l8 y.pl fun u t=>(y.mem u t).1) G;have w1:=(cG y.pl z1 z2 z5 (by omega) z4 (by omega) a3).1;have e1:X2 ((1,m):Qm).1⁻¹ R=R:=by
  grind [Ri]
 rw[e1]at w1;refine⟨r,R,v.mono fun E K h=>h.2,pr,⟨C3,w1,z5⟩,c3,lR,fun u t=>(I _ (y.mem u t).1).1.2,?_⟩;have a7:∀g∈fs,Pl g:=fun g z=>by obtain⟨_,_,T,_⟩:=hf g z;exact T.pl
 have r1:=UP.one (P:=fun n=>L8 n/\Wu w n<=Wu w m) a7 H F.ld (m:=zM) (c:=1) rfl (by
  rw[oW F.m8];exact⟨F.m8,Zf _⟩)
 have r2:UP o fs (fun n=>L8 n/\Wu w n<=Wu w m) (WA Qs (Un fs 0 i)):=cc d fun k Q g J h2 u t=>by
  obtain⟨lc,U,S,X,a2⟩:=y.up k Q g J h2 u t;exact⟨lc,U,S,X,(y.qp Q (Zh J)).q8 u t,(I _ a2).1⟩
 refine(r1.plus (r2.smul (-1))).congr fun φ=> ?_
 have e2:(XZ f fun k=>φ (Xg zM k))=XZ f φ:=Uy fun u t=>by rw[oW (F.pl.q8 u t)]
 rw[e2,y.eq];grind
end
theorem Dq {o}{a b}{P:P'->Prop}(g:∀f∈a,f∈b){v}(h:UP o a P v):UP o b P v:=by
 induction h with
 |zero e=>exact .zero e
 |add d j i c _ e k=>exact .add (g _ d) j i c k e
theorem sV {o}{b d}{P:P'->Prop}(j:∀f∈b,∀s,XB o f=some s->∀m,L8 m->P (Xg m s.2)->UP o d P fun a=>XZ f fun n=>a (Xg m n)){v}(h:UP o b P v):UP o d P v:=by
 induction h with
 |zero e=>exact .zero e
 |@add v w f s c m i l k g _ e p=>exact(((j _ i _ l _ k g).smul c).plus p).congr fun a=>by rw[e a];grind
section
variable {B:Xq}{o:M'}{lo:PL}{w:P'}
theorem Mn.of {c}{f}(h:Ew o w c f):Mn o f:=by
 obtain⟨m,A,F,-,a,b,-⟩:=h;exact⟨m,F.ld,a,b⟩
theorem rk.mn {b}{a}{m}{R}(h:rk o w b a m R):Mn o R/\QT o R=m:=by
 obtain⟨C,F,-⟩:=h.fe;exact⟨⟨m,F.ld,h.ok,by have:=h.ln;omega⟩,by unfold QT;rw[F.ld]⟩
theorem yF (l:Std B)(q:SA lo o)(m:Vq o)(e:o.length<1000000){D}{j}(i:VV D j)(A:∀g∈j,Mn o g){r}{R}(F:PQ r R)(y:Mn o R):∀k,k<=j.length->∃n,(XT B fun E _=>rj E lo D r k n)/\n<=k
 |0,_=>⟨0,XT.of fun _ _=>.zero,Zf _⟩
 |k+1,hk=>by
  obtain⟨g,f⟩:∃g,j[k]? =some g:=⟨_,Zd (by omega)⟩;obtain⟨p,C,J⟩:=i.get f;have h:=A g (Zh f);obtain⟨I,t⟩:=h.lm;obtain⟨L,u⟩:=y.lm;obtain⟨_,_,_,G⟩:=h;obtain⟨_,_,_,s⟩:=y;have v:=Rk l q m e J (by omega) I;have w:=Rk l q m e F (by omega) L;have x:=ny l q m t u e;cases z:S6 (.ofNat 0) (WY o (QT o g) (QT o R))with
  |false=>exact⟨k+1,(v.Xk.and (w.Xk.and x.Xk)).mono fun E K ⟨a,b,c⟩=>.stop C t.1 u.1 a b c z,Zf _⟩
  |true=>
   obtain⟨n,H,M⟩:=yF l q m e i A F ⟨_,‹_›,‹_›,s⟩ k (by omega);exact⟨n,(H.and (v.Xk.and (w.Xk.and x.Xk))).mono fun E K ⟨d,a,b,c⟩=>.step C t.1 u.1 a b c z d,by omega⟩
theorem uH (J:Std B)(S:SA lo o)(O:Vq o)(z:o.length<1000000)(Y:Xv B 22 [.one lo] (.one (.bool true)))(w8:w.length=8)(wp:∀x∈w,0<x){A M}(G:A<=100000)(t:∀V,V<=M->(allM w V).length<=100)(D:M<=65535)
  {C} {e} (q:VV C e) (F:e.length<=40) (N:∀f∈e,Ew o w A f) (T:∀f∈e,Wu w (QT o f)<=M) (X:∀j,j<e.length->¬rl o e j):∀d i u n,i+d=e.length->VV u n->n.length=i->(∀g∈n,∃f∈e,rk o w A e (QT o f) g)->(∀j f,j<i->e[j]? =some f->∃g∈n,rk o w A e (QT o f) g)->
  ∃s l,(XT B fun E _=>xU E lo C u i s)/\VV s l/\l.length=e.length/\(∀g∈l,∃f∈e,rk o w A e (QT o f) g)/\∀f∈e,∃g∈l,rk o w A e (QT o f) g
 |0,i,u,n,hi,m,hl,h1,h2=>by
  have Q:C.length=e.length:=q.length;refine⟨u,n,XT.of fun _ _=>by rw[show i=C.length by omega];exact .stop,m,by omega,h1,fun f N=> ?_⟩
  grind [Zv]
 |d+1,i,u,n,hi,m,hl,h1,h2=>by
  have Q:C.length=e.length:=q.length;obtain⟨f,y⟩:∃f,e[i]? =some f:=⟨_,Zd (by omega)⟩;obtain⟨p,I,-⟩:=q.get y;obtain⟨r,R,v,Z,hO⟩:=EX J S O z Y w8 wp G t D q F N T X y I;have P:=gj J (L:=.Xl (Ue C)) .Xl (by omega) i;obtain⟨k,k1,k2⟩:=yF J S O z m (fun g U=>by obtain⟨f',_,h⟩:=h1 g U;exact h.mn.1) Z hO.mn.1 u.length (by rw[m.length];exact Zf _);have H:VV (u.take k++[r]++u.drop k) (n.take k++[R]++n.drop k):=((m.take k).append (.cons Z .nil)).append (m.drop k);have W:∀g,g∈n.take k++[R]++n.drop k↔g∈n\/g=R:=fun g=>by
   grind [List.take_append_drop]
  have a1:=Zh y;obtain⟨s,l,m1,m2,m3,m4,m5⟩:=uH J S O z Y w8 wp G t D q F N T X d (i+1) _ _ (by omega) H (by simp;omega) (fun g U=>by
   grind) (fun j f' hj a0=>by
   grind)
  exact⟨s,l,(m1.and (P.Xk.and (v.and k1))).mono fun E K ⟨a,b,c,d⟩=>.next I b c d a,m2,m3,m4,m5⟩
theorem Hw (R:w.length=8)(S:∀x∈w,0<x){u W}{a b j}(E:IF o w W a)(e:∀f∈b,f∈a)(d:∀f∈a,∃g∈b,Ww (QT o g) (QT o f)=true)(N:∀f∈a,L8 (QT o f))(l:∀f∈a,Pl f)(B:∀g∈j,∃f∈b,rk o w u b (QT o f) g)(D:∀f∈b,∃g∈j,rk o w u b (QT o f) g):IF o w W j:=by
 intro v I;have q:UP o a (fun n=>L8 n/\Wu w n<=W) v:=sV (h:=I) fun g G s Q m c O=>by
  obtain⟨f,P,i⟩:=B g G;obtain⟨C,F,-⟩:=i.fe;have p:s=(1,QT o f):=by
   have:=F.ld
   grind
  subst p;have K:=Dq e i.MM;refine K.shift c l fun n H=>⟨Wo c H.1,?_⟩
  grind [Wr]
 rcases E v q with h|⟨δ,f,s,a1,a2,a3,a4,a5,a6⟩
 ·exact .inl h
 ·right;obtain⟨t,z,r⟩:=d f a4;obtain⟨g,A,i⟩:=D t z;obtain⟨C,F,-⟩:=i.fe;refine⟨δ,g,(1,QT o t),a1,a2,a3,A,F.ld,?_⟩;have k:QT o f=s.2:=by unfold QT;rw[a5]
  rw[k]at r;have J:=F.m8;have y:L8 s.2:=by grind
  have L:=WD (J.trans y.symm) r;have M:=WD (y.trans a2.symm) a6
  grind [Vj,TW]
theorem xu {ms}(G:IE o ms w){d}(c:∀f∈d,Pl f)(D:Dn o w d d.length 0)(W):IF o w W d:=by
 refine EO G.w8 G.wp c (fun f m g n p s t k l=> ?_) W;obtain⟨a,e⟩:=Zv.1 m;obtain⟨b,j⟩:=Zv.1 n;have q:=(Zg.1 e).1;have r:=(Zg.1 j).1;by_cases i:a<b
 ·exact D a b f g i (.inl r) e j d (fun _ h=>h) c s t k l
 ·have :b<a:=by
   grind
  exact(D b a g f this (.inl q) j e d (fun _ h=>h) c t s l k).sym
structure vu (o:M')(ms:List (Nat×Nat))(w:P')(hm n Vm:Nat):Prop where
 g:IE o ms w
 hd:∀a b,a+b<=2->(a,b)∈ms
 h1:1<=hm
 h2:hm<=100000
 hn:n<=30
 hb:Pd ms (Vg ms) hm n 3 []=true
 hV:∀p∈ms,Wu w (m2 p)<=Vm
 num:∀V,V<=Vm->(allM w V).length<=100
 V16:Vm<=65535
structure M9 (o:M')(w:P')(hm Vm:Nat)(gs:S'):Prop where
 ln:gs.length<=40
 el:∀g∈gs,∃m C,Fe o C 1 m g/\2*C<=32^(101*hm)/\XA m/\g.length<=100/\(∀u∈g,Wu w u.2<=Wu w m)/\Wu w m<=Vm
 gb:∀W,IF o w W gs
theorem xt (z:Std B)(T:SA lo o)(O:Vq o)(l:o.length<1000000)(hv:Xv B 22 [.one lo] (.one (.bool true))){ms}{I n J}(P:vu o ms w I n J){L}{R}{y}(sl:Sl L (Xf R))(x:VV R y)(K:∀f∈y,G2 2 9 3 f)(h3:y.length<=3):
  ∃i u,(XT B fun E _=>∀H,UL E 16 [La4 L,La4 lo] H=some (.one (.own H.length i.length 0 i.length),H++[TF i.length i]))/\VV i u/\M9 o w I J u:=by
 have p2:=P.h2;obtain⟨qs,N,Y,t,n',st,k1,k2,S,D,l0,-⟩:=Jt z T O l hv P.g P.hd (by omega) P.h1 P.hn P.hb x K h3;have q:∀f∈t,Ew o w I f/\Wu w (QT o f)<=J/\∃p∈ms,QT o f=m2 p:=fun f c=>by
  obtain⟨e,he,r⟩:=S.ft.all f c;obtain⟨A,F,hA⟩:=r.fe;have v:QT o f=VH e.a e.b:=by unfold QT;rw[F.ld]
  obtain⟨p,Z,m⟩:=r.Mp _ (Xy F.pl F.ld).1;have m:VH e.a e.b=m2 p:=m;have a0:(32:Nat)^e.h<=32^I:=Z5 (by decide) (S.hs e he);refine⟨⟨VH e.a e.b,A,F,by omega,bg (by have:=r.Kk;omega) (by have:=r.Kh;omega),by have:=r.ln;omega,r.wt P.g⟩,?_,p,Z,by rw[v,m]⟩;rw[v,m];exact P.hV p Z
 have d:∀f∈t,Pl f:=fun f c=>by obtain⟨⟨_,_,F,_⟩,_⟩:=q f c;exact F.pl
 have a7:Y.length=t.length:=S.ps.length;obtain⟨M,Q,k,a1,U,s,a4,a5⟩:=kM z T O l t.length 0 Y t (by omega) (by omega) S.ps (fun f c=>Mn.of (q f c).1) (fun j hj=>by omega);have l1:k.length<=40:=Zy s.length_le l0;obtain⟨i,u,b1,V,b3,X,b5⟩:=uH z T O l hv P.g.w8 P.g.wp P.h2 P.num P.V16 U l1 (fun f c=>(q f (s.subset c)).1) (fun f c=>(q f (s.subset c)).2.1) a5 k.length 0 [] [] (by omega) .nil rfl (fun _ h=>by cases h) (fun j f hj=>by omega);have a6:Q.length=k.length:=U.length;have a8:i.length=u.length:=V.length;have a9:R.length=y.length:=x.length;refine⟨i,u,Bz z sl (by omega) (by omega) (by omega) k1 k2 a1 b1,V,by omega,fun g K=> ?_,fun W=> ?_⟩
 ·obtain⟨f,c,G⟩:=X g K;obtain⟨C,F,hC⟩:=G.fe;exact⟨QT o f,C,F,hC,G.ok,G.ln,G.wl,(q f (s.subset c)).2.1⟩
 ·refine Hw P.g.w8 P.g.wp (xu P.g d D W) (fun f c=>s.subset c) a4 (fun f c=> ?_) d X b5;obtain⟨-,-,p,-,m⟩:=q f c;rw[m];rfl
end
