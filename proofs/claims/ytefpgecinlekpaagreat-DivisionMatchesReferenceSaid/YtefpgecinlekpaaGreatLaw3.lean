/- Sum and Standard: program and reference answer the same. -/
import Derived.Test.YtefpgecinlekpaaGreatQPst
import Derived.Test.YtefpgecinlekpaaGreatRMin
set_option maxHeartbeats 16000000
set_option maxRecDepth 100000
namespace Go.Proofs.YtefpgecinlekpaaGreat
open Go.Ev Go.Num
theorem Bw {B:Xr}(n:pG B){a r:List Qm}{d e:List (List Qm)}(h:lU a d e r):∀{lq g:List PL} {ra:PL},(∀q∈d,U5 2 9 3 q)->(∀f∈e,U5 3 12 4 f)->a.length+d.length*12<100000->T6 lq d->T6 g e->PQ ra a->∃i,(X0 B fun E _=>EG E ra lq g i)/\PQ i r:=by
 induction h with
 |nil a=>
  intro lq g ra _ _ _ j k l;cases j;cases k;exact⟨ra,X0.of fun _ _=>.nil ra,l⟩
 |@cons a q f r d e _ _ _ _ _ _ _ O P T U h A=>
  intro lq g ra p o z j k l;cases j with
  |cons L M=>
   cases k with
   |cons v w=>
    have c:=p q (Ze ..);have b:=o f (Ze ..);have s:=c.len;have t:=b.len;simp only[Zi]at z;obtain⟨S,J⟩:=kZ c b;have R:=J.len;have Q:q.length*(f.length*(9*12))<=3*(4*(9*12)):=Ya s (Ya t (Zh _));have y:q.length*f.length<=3*4:=Ya s t;obtain⟨x,C,D⟩:=vh n L v (r5 c) (r5 b) c.pl.dc b.pl.dc c.pl.q8 b.pl.q8 (sY c) (sY b) (by omega) (by omega) (qM c b) (by omega) (by omega) (by omega) (by omega);obtain⟨N,F,G⟩:=vp n.toStd l (lq:=.Xv x) ⟨x,.Xv,D⟩ O P (by omega) (by omega);have:=RU _ a (U7 [] q f) (Zh _);obtain⟨i,H,I⟩:=A (ra:=.Xv N) (fun x m=>p x (Zc _ m)) (fun x m=>o x (Zc _ m)) (by omega) M w ⟨_,.Xv,G⟩;exact⟨i,(H.and (C.Xi.and F.Xi)).mono fun E K ⟨u,e1,e2⟩=>.cons e1 e2 u,I⟩
theorem xa {B:Xr}(e:pG B){Q L:PL}{m l:List PL}{a d:List (List Qm)}(o:Sl Q (Xu m))(n:Sl L (Xu l))(i:T6 m a)(h:T6 l d)(w:a.length=d.length)(x:a.length<200)(k:∀q∈a,U5 2 9 3 q)(j:∀f∈d,U5 3 12 4 f):
  ∃r b c,U5 5 (a.length*324) (a.length*12) r/\PQ b r/\PQ c r/\Xs B 16 [.one Q,.one L] (.XY [.one b,.one (.int .i64 (.ofNat 0))])/\Xs B 17 [.one Q,.one L] (.XY [.one c,.one (.int .i64 (.ofNat 0))]):=by
 obtain⟨r,s,g⟩:=sa w k j (U5.nil 5 0 0) (by omega) (by omega);have e1:=i.length;have e2:=h.length;obtain⟨c,p,t⟩:=xF e.toStd o n i h (by omega) s;obtain⟨b,u,v⟩:=Bw e s k j (by simp only[Zu];omega) i h (ra:=.XJ) ⟨[],.nil,.nil⟩;exact⟨r,b,c,g.mono (Zh _) (by omega) (by omega),v,t,qz e.toStd o n (by omega) (by omega) u,p⟩
theorem dR {B:Xr}(j:Std B){p b:PL}{o:List (List Int)}(u:S6 b o)(n:VE o)(a:o.length<1000000){f:List Qm}(k:PQ p f)(m:f.length<100000):
  (Wl o f=none/\Xs B 58 [.one p,.one b] (.XY [.agg (.bool false::.XJ::.bool false::.XJ::mo To),.one (.bool false)]))\/
  (∃s d e g h,Wl o f=some s/\s.2.length=8/\Xs B 58 [.one p,.one b] (.XY [.agg (d::e::g::h::mo s.2),.one (.bool true)])):=by
 cases f with
 |nil=>
  obtain⟨v,r,q⟩:=k;cases q;exact .inl ⟨rfl,fo j r⟩
 |cons t w=>
  simp only[Zi]at m;obtain⟨c,l,i⟩:=jm j u n a k (by omega);obtain⟨d,e,g,h,rfl⟩:=i.eight;exact .inr ⟨_,d,e,g,h,rfl,i.Pk.1,l⟩
theorem N7 {B:Xr}(m:Std B){p e:PL}{o:List (List Int)}(t:S6 e o)(q:VE o)(d:o.length<1000000){f:List Qm}(r:PQ p f)(n:f.length<100000):
  (Wl o f=none/\Xs B 29 [.one p,.one e] (.XY [.agg (.bool false::.XJ::.bool false::.XJ::mo To),.one (.bool false)]))\/
  (∃s g h i j,Wl o f=some s/\XL s.2/\Xs B 29 [.one p,.one e] (.XY [.agg (g::h::i::j::mo s.2),.one (.bool true)])):=by
 obtain⟨c,b,k,a⟩:=Uh m t q d r n;cases l:Wl o f with
 |none=>
  simp only[l]at a;obtain⟨rfl,rfl⟩:=a;exact .inl ⟨rfl,k⟩
 |some s=>
  simp only[l]at a;obtain⟨rfl,a⟩:=a;obtain⟨g,h,i,j,rfl⟩:=a.eight;exact .inr ⟨s,g,h,i,j,rfl,a.Pk,k⟩
theorem kz {B:Xr}(j:Std B){O:PL}{o:List (List Int)}(C:S6 O o)(A:VE o)(a:o.length<1000000){m:List Nat}(Y:XL m)(is:Bool):∀{H G:List PL} {U W:List (List Qm)},T6 H U->T6 G W->U.length=W.length->(∀q∈U,U5 2 9 3 q)->(∀f∈W,U5 3 12 4 f)->
  ∃b,(X0 B fun E _=>Aw E O m is H G b)/\X0 B fun E _=>wO E O m is H G b
 |[],_,_,_,.nil,hf,he,_,_=>by
  cases hf with
  |nil=>exact⟨true,X0.of fun _ _=>.nil,X0.of fun _ _=>.nil⟩
  |cons _ _=>simp at he
 |q::H,ll',f::U,_,.cons hq hqs,hf,he,gq',gf'=>by
  cases hf with
  |nil=>simp at he
  |@cons l g G gs X M=>
   have p:=gq' f (Ze ..);have F:=gf' g (Ze ..);have l1:=p.len;have l2:=F.len;simp only[Zi,Nat.add_right_cancel_iff]at he;obtain⟨b,V,T⟩:=kz j C A a Y is hqs M he (fun x hx=>gq' x (Zc _ hx)) (fun x hx=>gf' x (Zc _ hx));obtain⟨m1,m2⟩:=kZ p F;have l3:=m2.len;have a4:f.length*g.length<=3*4:=Ya l1 l2;obtain⟨r,J,k2⟩:=ya j hq X (S9 p (by omega)) (S9 F (by omega)) (fun t ht=>⟨p.pl.dc.nz t ht,qM p F t ht⟩) m1 (by omega) (by omega) (by omega);have e1:=hqs.length;have e2:=M.length;have N:H.length=G.length:=by omega
   rcases dR j C A a hq (by omega)with⟨P,D⟩|⟨s,s1,s2,s3,s4,P,Q,D⟩
   ·
    have i:=RG P;subst i;rcases N7 j C A a k2 (by omega)with⟨c,e⟩|⟨u,u1,u2,u3,u4,c,h,e⟩
    ·rcases dR j C A a X (by omega)with⟨I,n⟩|⟨t,t1,t2,t3,t4,I,c3,n⟩
     ·exact⟨b,(V.and (J.Xi.and e.Xi)).mono fun E K ⟨x,y,z⟩=>.none y ⟨z,rfl⟩ x,(T.and (D.Xi.and n.Xi)).mono fun E K ⟨x,y,z⟩=>.xp ⟨y,rfl⟩ ⟨z,rfl⟩ x⟩
     ·exact⟨b,(V.and (J.Xi.and e.Xi)).mono fun E K ⟨x,y,z⟩=>.none y ⟨z,rfl⟩ x,(T.and (D.Xi.and n.Xi)).mono fun E K ⟨x,y,z⟩=>.xp ⟨y,rfl⟩ ⟨z,c3⟩ x⟩
    ·rw[vA]at c;cases c
   ·rcases dR j C A a X (by omega)with⟨I,n⟩|⟨t,t1,t2,t3,t4,I,c3,n⟩
    ·
     have i:=RG I;subst i;rcases N7 j C A a k2 (by omega)with⟨c,e⟩|⟨u,u1,u2,u3,u4,c,h,e⟩
     ·exact⟨b,(V.and (J.Xi.and e.Xi)).mono fun E K ⟨x,y,z⟩=>.none y ⟨z,rfl⟩ x,(T.and (D.Xi.and n.Xi)).mono fun E K ⟨x,y,z⟩=>.CG ⟨y,Q⟩ ⟨z,rfl⟩ x⟩
     ·rw[vz p.pl]at c;cases c
    ·obtain⟨u,h1,h2⟩:=y0 p.pl F.pl P I;rcases N7 j C A a k2 (by omega)with⟨c,e⟩|⟨u',u1,u2,u3,u4,c,h,e⟩
     ·rw[h1]at c;cases c
     ·rw[h1]at c;cases c;rw[h2]at e h;have Z:=(We p.pl P).1;have a0:=(We F.pl I).1;have ms:XL s.2:=lM (d:=2) (by omega) (p.lN s Z);have mt:XL t.2:=lM (d:=3) (by omega) (F.lN t a0);have k:=P6 j ms mt h;cases is with
      |false=>
       exact⟨false,(J.Xi.and e.Xi).mono fun E K ⟨y,z⟩=>.no y ⟨z,h.1⟩ rfl N,(D.Xi.and (n.Xi.and k.Xi)).mono fun E K ⟨x,y,z⟩=>.no ⟨x,Q⟩ ⟨y,c3⟩ h.1 z rfl⟩
      |true=>
       have R:=jg j C A h Y a;have S:=OM j C A h Y a;have L:∀z:Int,WQ o (Xg s.2 t.2) m=z->T5 (.ofNat 0) z=false->∃b,(X0 B fun E _=>Aw E O m true (q::H) (l::G) b)/\X0 B fun E _=>wO E O m true (q::H) (l::G) b:=fun z i e1=>by
        rw[i]at R S;exact⟨b,(V.and (J.Xi.and (e.Xi.and R.Xi))).mono fun E K ⟨x,y,z,w⟩=>.le y ⟨z,h.1⟩ rfl w e1 x,(T.and (D.Xi.and (n.Xi.and (k.Xi.and S.Xi)))).mono fun E K ⟨x,y,z,v,w⟩=>.le ⟨y,Q⟩ ⟨z,c3⟩ h.1 v rfl w e1 x⟩
       rcases VC o (Xg s.2 t.2) m with i|i|i
       ·rw[i]at R S;exact⟨false,(J.Xi.and (e.Xi.and R.Xi)).mono fun E K ⟨y,z,w⟩=>.gt y ⟨z,h.1⟩ rfl w N,(D.Xi.and (n.Xi.and (k.Xi.and S.Xi))).mono fun E K ⟨y,z,v,w⟩=>.gt ⟨y,Q⟩ ⟨z,c3⟩ h.1 v rfl w⟩
       ·exact L _ i rfl
       ·exact L _ i rfl
theorem ig {B:Xr}(a:pG B){Q L p P S:PL}{o:List (List Int)}(t:S6 p o)(k:VE o)(c:o.length<1000000)(N:Xs B 57 [.one p] (.one (.bool true)))(n:Xs B 49 [.one p] (.one (.bool true))){R O:List PL}{h C:List (List Qm)}(z:Sl Q (Xu R))(y:Sl L (Xu O))(E:T6 R h)(D:T6 O C)(x:h.length=C.length)(hl:h.length<200)(J:∀q∈h,U5 2 9 3 q)(I:∀f∈C,U5 3 12 4 f)
  {r:List Qm} (K:U5 5 (h.length*324) (h.length*12) r) (F:PQ S r) (g:PQ P r) (M:Xs B 16 [.one Q,.one L] (.XY [.one S,.one (.int .i64 (.ofNat 0))])) (U:Xs B 17 [.one Q,.one L] (.XY [.one P,.one (.int .i64 (.ofNat 0))])):
  ∃b,Xs B 18 [.one P,.one Q,.one L,.one p] (.one (.bool b))/\Xs B 19 [.one P,.one Q,.one L,.one p] (.one (.bool b)):=by
 have lr:=K.len;have T:=S9 K (by omega);have e1:=E.length;have e2:=D.length;have l:=ve a.toStd F g T (by omega);have j:=Be a.toStd U (Ry a.toStd g g T (by omega));rcases dR a.toStd t k c g (by omega)with⟨v,A⟩|⟨s,s1,s2,s3,s4,v,Z,A⟩
 ·rcases N7 a.toStd t k c g (by omega)with⟨d,i⟩|⟨u,V,W,X,Y,d,w,i⟩
  ·obtain⟨b,G,H⟩:=kz a.toStd t k c (m:=To) ⟨rfl,fun e x=>by simp[To]at x;omega⟩ false E D x J I;exact⟨b,Nb a.toStd z y (by omega) (by omega) N M l rfl A H,O9 a.toStd z y (by omega) n j rfl i G⟩
  ·rw[v]at d;cases d
 ·rcases N7 a.toStd t k c g (by omega)with⟨d,i⟩|⟨u,V,W,X,Y,d,w,i⟩
  ·rw[v]at d;cases d
  ·rw[v]at d;cases d;obtain⟨b,G,H⟩:=kz a.toStd t k c w true E D x J I;exact⟨b,Nb a.toStd z y (by omega) (by omega) N M l w.1 A H,O9 a.toStd z y (by omega) n j w.1 i G⟩
variable {o:List (List Int)}{w:List Nat}
theorem gz (o:List (List Int)):∀(a:List (List Qm)) (i:Nat),(Wz o a i).length<=a.length
 |[],_=>Zh _
 |f::a,i=>by
  have:=gz o a (i+1);unfold Wz;split
  ·simp only[Zi];omega
  ·simp only[Zi];omega
theorem wv {B:Xr}(m:StdO B)(W:PA o w){i L A:PL}(M:S6 i o)(Z:Xs B 57 [.one i] (.one (.bool true)))(y:Xs B 49 [.one i] (.one (.bool true))){H:List PL}{l:List (List Qm)}(K:Sl L (Xu H))(g:T6 H l)(v:∀f∈l,U5 3 12 4 f)(hl:l.length<1000){p:List Qm}(G:PQ A p)(e:U5 4 15 5 p):
  ∃q r I J,Xs B 48 [.one A,.one L,.one i] (.XY [.one q,.one r,.one (.int .i64 (.ofNat 0))])/\Xs B 12 [.one A,.one L,.one i] (.agg [I,J,.int .i64 (.ofNat 0)])/\Xs B 13 [.one q,.one I] (.one (.bool true))/\Xs B 14 [.one r,.one J] (.one (.bool true)):=by
 have E:=W.cx (c:=15) (n:=4) (k:=K1) (by omega) (by omega) (by decide) (V:=96) (by omega) (fun f b=>(v f b).mono (Zh _) (by omega) (Zh _));have D:=DK (o:=o) W.w8 W.wp 96;have h:(Se o (allM w 96)).length<=17000:=ZD (ZD (bp _) (gN ..)) W.num;have x:=iW (a:=15) (by omega) h;obtain⟨n,tq,tr,Qs,R,S⟩:=di E D (by omega) e.pl (fun u Y=>by
  have s:=e.lN u Y;exact W6.2 (RE (W.w8.trans s.l8.symm) W.wp (ZD (W.le 4 _ s) (by omega)))) (C:=2*15*15) ⟨1,by omega,by omega,fun t X=>by
  obtain⟨z,Q,h2⟩:=e.cf t X;exact⟨z,by rw[Q];exact Rat.mul_one _,by omega⟩⟩ (by omega) x
 have P:=zA o E.Gr;have a2:=e.len;obtain⟨lq,lr,N,F,O,d4⟩:=tW m.toStd M W.o8 W.ol K g (fun f b=>by have:=(v f b).len;omega) (by omega) y G S.ref;obtain⟨a0,a1,e1,e2,e3⟩:=nL m M W.o8 W.ol Z K g (fun f b=>⟨SZ (v f b).pl,by have:=(v f b).len;omega⟩) (by omega) G (SZ e.pl) (by omega) (by have:=gz o l 0;omega) (fun d s=>by
  obtain⟨j,U⟩:=ZM.1 s;exact(Zd.1 (P.at_ j d U)).1) S.prog S.GF S.GD S.GC S.GB
 rw[S.same]at e2;rw[S.rest]at e3;have T:=F.length;exact⟨_,_,_,_,e1,N,xB m.toStd .Xv .Xv e2 F (fun f b=>⟨(S.Gn f b).1,by have:=(S.Gn f b).2;omega⟩) (by omega),Ry m.toStd e3 O S.Gm.1 (by have:=S.Gm.2;omega)⟩
theorem mK {B:Xr}(c:StdO B)(W:PA o w){p z A:PL}(x:S6 p o)(G:Xs B 57 [.one p] (.one (.bool true)))(m:Xs B 49 [.one p] (.one (.bool true))){f g:List Qm}(q:PQ z f)(r:PQ A g)(d:U5 4 15 5 f)(i:U5 3 12 4 g):
  ∃u v e,Xs B 24 [.one z,.one A,.one p] (.XY [.one u,.one (.int .i64 (.ofNat e))])/\Xs B 25 [.one z,.one A,.one p] (.XY [.one v,.one (.int .i64 (.ofNat e))])/\Xs B 14 [.one u,.one v] (.one (.bool true)):=by
 have P:=d.len;have Q:=i.len;by_cases h0:f=[]\/g=[]
 ·exact⟨_,_,_,nB c x W.o8 W.ol G q r (SZ d.pl) (SZ i.pl) (by omega) (by omega) h0,cH c.toStd x W.o8 W.ol m q r (by omega) (by omega) h0,Ry c.toStd (ts:=[]) ⟨[],.nil,.nil⟩ ⟨[],.nil,.nil⟩ (fun _ h=>by cases h) (by simp)⟩
 ·obtain⟨s,C,E⟩:=NV (o:=o) (fun h=>h0 (.inl h):f≠[]);obtain⟨t,D,F⟩:=NV (o:=o) (fun h=>h0 (.inr h):g≠[]);have j:Q0 o w 15 [f,g] (s,f,C,0):=gA (by omega) W (by simp) (n:=5) (by omega) d E 0;have l:Q0 o w 15 [f,g] (t,g,D,0):=gA (by omega) W (by simp) (n:=4) (by omega) (i.mono (Zh _) (by omega) (Zh _):U5 3 15 4 g) F 0;have J:Vr w (QK (s,f,C,0) (t,g,D,0))<=112:=by
   have N:Vr w s.2<=16*4:=W.le 4 _ (d.lN _ (We j.pl j.ld).1);have O:Vr w t.2<=16*3:=W.le 3 _ (i.lN _ (We l.pl l.ld).1);have:=dK w s.2 t.2;show Vr w (Wb s.2 t.2)<=112;omega
  have y:2*15*15<4294967296^K1:=by
   have:=iW (a:=15) (n:=0) (by omega) (by omega);rw[Nat.pow_zero]at this;omega
  have b:wN (s,f,C,0) (t,g,D,0):=qa (k:=K1) (by decide) (by omega) W.w8 W.wp (by omega) j l;have e1:=jq (Wb s.2 t.2) s;have e2:=jq (Wb s.2 t.2) t;obtain⟨S,M,H⟩:=eW c.toStd x W.o8 W.ol m q r (by omega) (by omega) j.ld l.ld b.ht b.hs b.t0 b.s0 b.zt b.zs (by rw[e1];exact b.ot) (by rw[e2];exact b.os) (by rw[e1];exact b.ht.inv) (by rw[e2];exact b.hs.inv) (by rw[e1];exact Od b.t0) (by rw[e2];exact Od b.s0) (by rw[e1];exact b.rt) (by rw[e2];exact b.rs);rw[xI]at H;obtain⟨R,K,L⟩:=qA c x W.o8 W.ol G q r (SZ d.pl) (SZ i.pl) (by omega) (by omega) E F b.ht b.t0 b.hs b.s0 b.zt b.zs b.ot b.os b.rt b.rs;have I:(bo s f t g).length<=f.length+g.length:=by
   have:=RU _ (VF (Wb s.2 t.2) s f) (Ri (VF (Wb s.2 t.2) t g)) (Zh _);have e1:(VF (Wb s.2 t.2) s f).length=f.length:=by unfold VF X3;rw[Zy]
   have e2:(Ri (VF (Wb s.2 t.2) t g)).length=g.length:=by unfold Ri UI VF X3;rw[Zy,Zy]
   rw[e1,e2]at this;exact this
  exact⟨_,_,_,K,M,Ry c.toStd ⟨_,.Xv,L⟩ ⟨_,.Xv,H⟩ (Am (k:=K1) (by decide) (qb j l) y) (by omega)⟩
end Go.Proofs.YtefpgecinlekpaaGreat
namespace Go.Proofs.YtefpgecinlekpaaGreat
open Go.Ev Go.Num
theorem zQ {B:Xr}(b:Std B){p L c q r:PL}{e:Nat}(h:Xs B 48 [.one p,.one L,.one c] (.XY [.one q,.one r,.one (.int .i64 (.ofNat e))])):Xs B 11 [.one p,.one L,.one c] (.agg [q,r,.int .i64 (.ofNat e)]):=by
 refine Xs.of (b.X6 _ _ rfl) ((h.Xi.and b.Xi).mono fun E K ⟨e1,a⟩=> ?_);simp(decide:=true)only[Xp,Xq,WR,reduceIte,Nat.reduceAdd,x11,a,XW,e1]
theorem yo {B:Xr}(b:Std B){P Q L e:PL}{g f:List PL}(k:Sl Q (Xu g))(j:Sl L (Xu f))(h:g.length≠f.length)(i:Xs B 57 [.one e] (.one (.bool true))):Xs B 18 [.one P,.one Q,.one L,.one e] (.one (.bool false)):=by
 refine Xs.of (b.X6 _ _ rfl) ((i.Xi.and b.Xi).mono fun E K ⟨ev,a⟩=> ?_);have c:=k.len;have d:=j.len;rw[XH]at c d;simp(decide:=true)only[Xp,Xq,WR,reduceIte,Nat.reduceAdd,x18,a,XW,ev,c,d,h]
theorem Bf {B:Xr}(b:Std B){P Q L:PL}(h:Xs B 17 [.one Q,.one L] (.XY [.one .XJ,.one (.int .i64 (.ofNat 1))])):Xs B 62 [.one P,.one Q,.one L] (.one (.bool false)):=by
 refine Xs.of (b.X6 _ _ rfl) ((h.Xi.and b.Xi).mono fun E K ⟨e1,a⟩=> ?_);simp(decide:=true)only[Xp,Xq,WR,reduceIte,Nat.reduceAdd,x62,a,XW,e1]
theorem xH {B:Xr}(b:Std B){P Q L c:PL}(d:Xs B 49 [.one c] (.one (.bool true)))(h:Xs B 62 [.one P,.one Q,.one L] (.one (.bool false))):Xs B 19 [.one P,.one Q,.one L,.one c] (.one (.bool false)):=by
 refine Xs.of (b.X6 _ _ rfl) ((d.Xi.and (h.Xi.and b.Xi)).mono fun E K ⟨ev,e1,a⟩=> ?_);simp(decide:=true)only[Xp,Xq,WR,reduceIte,Nat.reduceAdd,x19,a,XW,ev,e1]
theorem p6 {B:Xr}(a:pG B){Q L d:PL}{o:List (List Int)}(N:S6 d o)(J:VE o)(n:o.length<1000000)(z:Xs B 57 [.one d] (.one (.bool true)))(c:Xs B 49 [.one d] (.one (.bool true))){C A:List PL}{k l:List (List Qm)}(j:Sl Q (Xu C))(i:Sl L (Xu A))(p:T6 C k)(m:T6 A l)(y:k.length<200)(v:∀q∈k,U5 2 9 3 q)(u:∀f∈l,U5 3 12 4 f):
  ∃s t e b,Xs B 16 [.one Q,.one L] (.XY [.one s,.one (.int .i64 (.ofNat e))])/\Xs B 17 [.one Q,.one L] (.XY [.one t,.one (.int .i64 (.ofNat e))])/\Xs B 14 [.one s,.one t] (.one (.bool true))/\Xs B 18 [.one t,.one Q,.one L,.one d] (.one (.bool b))/\Xs B 19 [.one t,.one Q,.one L,.one d] (.one (.bool b)):=by
 have e1:=p.length;have e2:=m.length;by_cases x:k.length=l.length
 ·obtain⟨r,K,M,g,D,E,F,G⟩:=xa a j i p m x y v u;obtain⟨b,H,I⟩:=ig a N J n z c j i p m x y v u g D E F G;have:=g.len;exact⟨K,M,0,b,F,G,Ry a.toStd D E (S9 g (by omega)) (by omega),H,I⟩
 ·have w:=xG a.toStd j i (by omega);exact⟨.XJ,.XJ,1,false,yn a.toStd j i (by omega),w,Ry a.toStd (ts:=[]) ⟨[],.nil,.nil⟩ ⟨[],.nil,.nil⟩ (fun _ h=>by cases h) (by simp),yo a.toStd j i (by omega) z,xH a.toStd c (Bf a.toStd w)⟩
theorem An {m n:List Nat}(a:m.length=8)(c:n.length=8):Vl true .i64 8 [.agg (Xm m),.agg (Xm n)]=some ⟨.one (.p (.bool (!decide (m=n)))),[],[],[]⟩:=by
 have b:Nat.beq (Xm m).length 8=true:=by rw[Xa,a];rfl
 simp only[Vl,W5.pure,b,cond_true,Vt m n (by rw[a,c])];cases decide (m=n)<;>rfl
abbrev FW (P L lo A C:PL)(d7:DV)(i:Nat):List (Nat×DV):=[(7,d7),(8,.one (.p P)),(9,.one (.p L)),(10,.one (.p lo)),(18,.one (.p A)),(19,.one (.p C)),(20,.one (.p (.int .i64 (.ofNat i))))]
theorem Al {E:Xb}{K k i:Nat}(r:E.mode=md){a:List (List Nat)}{m:List Nat}{P L n A C:PL}{g:DV}(o:cw A a)(u:cw C a)(l:a[i]? =some m)(c:m.length=8)(w:a.length<1000000)(H:List Xz):
  Xc E K 0 [7,8,9,10,18,19,20] x3_1 (k+1) ⟨FW P L n A C g i,H⟩=Xc E K 0 [7,8,9,10,18,19,20] x3_1 k ⟨FW P L n A C g (i+1),H⟩:=by
 have e:i<a.length:=(Zd.mp l).1;have j:(a.map mo)[i]? =some (mo m):=by rw[Zx,l];rfl
 have s:=fun(d:HF) (f:IntKind)=>o.idx (h:=d) (k:=f) (sz:=8) j (by rw[Xy];exact c)
 have t:=fun(d:HF) (f:IntKind)=>u.idx (h:=d) (k:=f) (sz:=8) j (by rw[Xy];exact c)
 have b:=o.len;have v:(Xm m).take 8=Xm m:=Zb (by rw[Xa];omega);have q:=An c c;have p:Xe .i64 (.ofNat (i+1))=.ofNat (i+1):=wrap_i64 (by omega);rw[Xc];simp(decide:=true)only[Xp,Xq,VN,reduceIte,Nat.reduceEqDiff,Nat.reduceAdd,x3_1,b,Zy,e,s,t,q,v,c,XS,Xa,p]
theorem CY {E:Xb}{K:Nat}(e:E.mode=md){b:List (List Nat)}{P L lo A C:PL}{d7:DV}(g:cw A b)(n:cw C b)(j:∀m∈b,m.length=8)(l:b.length<1000000):∀(d i k:Nat),i+d=b.length->d<k->
  ∃a,(∀H,Xc E K 0 [7,8,9,10,18,19,20] x3_1 k ⟨FW P L lo A C d7 i,H⟩=some (.exit 0,⟨a,H⟩))/\Xh a 7=some d7/\Xh a 8=some (.one (.p P))/\Xh a 9=some (.one (.p L))/\Xh a 10=some (.one (.p lo))
 |0,i,k,hi,hk=>by
  obtain⟨k,rfl⟩:∃f,k=f+1:=⟨k-1,by omega⟩;rw[Z3]at hi;subst hi;have c:=g.len;apply VM
  ·intro H;rw[Xc];simp only[Xp,Xq,reduceIte,Nat.reduceEqDiff,x3_1,c,Zy,Zv];rfl
  ·simp only[Xp,reduceIte,Nat.reduceEqDiff,and_self]
 |d+1,i,k,hi,hk=>by
  obtain⟨k,rfl⟩:∃f,k=f+1:=⟨k-1,by omega⟩;obtain⟨a,o,q⟩:=CY e g n j l d (i+1) k (by omega) (by omega);have h:b[i]? =some b[i]:=Zg (by omega);exact⟨a,fun H=>by rw[<-o H];exact Al e g n h (j _ (Zt h)) l H,q⟩
abbrev FM (P L lo:PL)(d7:DV)(i:Nat):List (Nat×DV):=[(7,d7),(8,.one (.p P)),(9,.one (.p L)),(10,.one (.p lo)),(21,.one (.p (.int .i64 (.ofNat i))))]
structure Gh (E:Xb)(P lo l u v:PL)(e:Nat):Prop where
 h1:E.pure 24 [.one P,.one l,.one lo]=some (.XY [.one u,.one (.int .i64 (.ofNat e))])
 h2:E.pure 25 [.one P,.one l,.one lo]=some (.XY [.one v,.one (.int .i64 (.ofNat e))])
 h3:E.pure 14 [.one u,.one v]=some (.one (.bool true))
theorem xn {E:Xb}{K k i e:Nat}(d:E.mode=md){P L f l u v:PL}{b:List PL}{g:DV}(m:Sl L (Xu b))(j:b[i]? =some l)(w:b.length<1000000)(h:Gh E P f l u v e)(H:List Xz):
  Xc E K 0 [7,8,9,10,21] x3_2 (k+1) ⟨FM P L f g i,H⟩=Xc E K 0 [7,8,9,10,21] x3_2 k ⟨FM P L f g (i+1),H⟩:=by
 have c:i<b.length:=(Zd.mp j).1;have s:=fun(r:HF) (t:IntKind)=>m.idx (h:=r) (k:=t) (sz:=1) (XI j) rfl
 have a:=m.len;have n:Xe .i64 (.ofNat (i+1))=.ofNat (i+1):=wrap_i64 (by omega);obtain⟨o,p,q⟩:=h;rw[Xc];simp(decide:=true)only[Xp,Xq,WR,reduceIte,x3_2,d,XW,a,XH,c,s,o,p,q,n]
theorem CF {E:Xb}{K:Nat}(c:E.mode=md){P L lo:PL}{a:List PL}{d7:DV}(j:Sl L (Xu a))(n:a.length<1000000)(h:∀l∈a,∃u v e,Gh E P lo l u v e):∀(d i k:Nat),i+d=a.length->d<k->
  ∃f,(∀H,Xc E K 0 [7,8,9,10,21] x3_2 k ⟨FM P L lo d7 i,H⟩=some (.exit 2,⟨f,H⟩))/\Xh f 7=some d7
 |0,i,k,hi,hk=>by
  obtain⟨k,rfl⟩:∃g,k=g+1:=⟨k-1,by omega⟩;rw[Z3]at hi;subst hi;have b:=j.len;apply VM
  ·intro H;rw[Xc];simp only[Xp,Xq,reduceIte,Nat.reduceEqDiff,x3_2,b,XH,Zv];rfl
  ·simp only[Xp,reduceIte,Nat.reduceEqDiff]
 |d+1,i,k,hi,hk=>by
  obtain⟨k,rfl⟩:∃g,k=g+1:=⟨k-1,by omega⟩;obtain⟨f,o,p⟩:=CF c j n h d (i+1) k (by omega) (by omega);have m:a[i]? =some a[i]:=Zg (by omega);obtain⟨u,v,e,q⟩:=h _ (Zt m);exact⟨f,fun H=>by rw[<-o H];exact xn c j m n q H,p⟩
theorem zc {B:Xr}(U:Std B){X S Z lo P L Q q r q' r' s t A C:PL}{n e:Nat}{b T:Bool}{d:List PL}{c:List (List Nat)}
  (h7:Xs B 7 [] (.one (.bool true))) (h8:Xs B 8 [.agg [X]] (.one P)) (h9:Xs B 9 [.agg [S,.int .u8 (.ofNat n)]] (.one L)) (hO:Xs B 10 [.one (.int .u8 (.ofNat n))] (.one lo)) (sl:Sl L (Xu d)) (a0:d.length<1000)
  (hd:Xs B 11 [.one P,.one L,.one lo] (.agg [q,r,.int .i64 (.ofNat 0)])) (hw:Xs B 12 [.one P,.one L,.one lo] (.agg [q',r',.int .i64 (.ofNat 0)])) (M:Xs B 13 [.one q,.one q'] (.one (.bool true))) (N:Xs B 14 [.one r,.one r'] (.one (.bool true)))
  (hZ:Xs B 15 [.one Z,.one (.int .i64 (.ofNat 3)),.one (.int .i64 (.ofNat 2)),.one (.int .i64 (.ofNat 3)),.one (.int .i64 (.ofNat 4))] (.one Q))
  (hs:Xs B 16 [.one Q,.one L] (.XY [.one s,.one (.int .i64 (.ofNat e))])) (ht:Xs B 17 [.one Q,.one L] (.XY [.one t,.one (.int .i64 (.ofNat e))])) (R:Xs B 14 [.one s,.one t] (.one (.bool true)))
  (I:Xs B 18 [.one t,.one Q,.one L,.one lo] (.one (.bool b))) (J:Xs B 19 [.one t,.one Q,.one L,.one lo] (.one (.bool b))) (D:Xs B 20 [.one L,.one lo] (.one (.bool T))) (F:Xs B 21 [.one L,.one lo] (.one (.bool T)))
  (G:Xs B 22 [.one L,.one lo] (.one A)) (H:Xs B 23 [.one L,.one lo] (.one C)) (sA:cw A c) (sC:cw C c) (m8:∀m∈c,m.length=8) (a1:c.length<100000) (O:X0 B fun E _=>∀l∈d,∃u v e,Gh E P lo l u v e):
  Xs B 3 [.agg [X],.agg [S,.int .u8 (.ofNat n)],.one Z] (.one (.bool true)):=by
 refine Xs.of (U.X6 _ _ rfl) ((h7.Xi.and (h8.Xi.and (h9.Xi.and (hO.Xi.and (hd.Xi.and (hw.Xi.and (M.Xi.and (N.Xi.and (hZ.Xi.and (hs.Xi.and (ht.Xi.and (R.Xi.and (I.Xi.and (J.Xi.and (D.Xi.and (F.Xi.and (G.Xi.and (H.Xi.and (O.and (U.Xi.and (X0.ge (d.length+c.length+2)))))))))))))))))))))).mono fun E K ⟨e7,e8,e9,eO,ed,ew,w,x,eZ,es,et,z,k,o,g,h,i,j,y,a,hK⟩=> ?_);obtain⟨T1,V,a7,a8,a9,f⟩:=CY (K:=K) (P:=P) (L:=L) (lo:=lo) (d7:=.one (.p (.bool true))) a sA sC m8 (by omega) c.length 0 K (by omega) (by omega);obtain⟨T2,W,c7⟩:=CF (K:=K) (P:=P) (L:=L) (lo:=lo) (d7:=.one (.p (.bool true))) a sl (by omega) y d.length 0 K (by omega) (by omega);have Y:=sA.len;have l2:=sC.len;rw[Zy]at Y l2;simp only[FW]at V;simp only[FM]at W;simp(decide:=true)only[Xp,Xq,WR,reduceIte,Nat.reduceAdd,x3,a,XW,e7,e8,e9,eO,ed,ew,w,x,eZ,es,et,z,k,o,g,h,i,j,V,W,a7,a8,a9,f,c7,Y,l2,beq_self_eq_true]
theorem yw {B:Xr}(b:Std B){R:PL}(h:Rp R):∃r a,Xs B 8 [.agg [R]] (.one r)/\PQ r a/\U5 4 15 5 a:=by
 obtain⟨r,a,e,f,g⟩:=nY b h (d:=4) (tm:=5) (by omega) (by omega);refine⟨r,a,Xs.of (b.X6 _ _ rfl) ((e.Xi.and b.Xi).mono fun E K ⟨e1,c⟩=> ?_),f,g⟩;simp only[Xp,Xq,reduceIte,Nat.reduceEqDiff,Nat.reduceLeDiff,Zs,x8,c,XW,e1]
inductive pL (E:Xb)(d tm:Nat):List (List PL)->List PL->Prop
 |nil:pL E d tm [] []
 |cons {R r:PL} {ls:List (List PL)} {rs:List PL} (h1:E.pure 26 [.agg [R],.one (.int .i64 (.ofNat 3)),.one (.int .i64 (.ofNat d)),.one (.int .i64 (.ofNat tm))]=some (.one r)) (h:pL E d tm ls rs):pL E d tm ([R]::ls) (r::rs)
theorem yF (a:List PL)(r:PL):pc (Xu a)++[[.p r]]=pc (Xu (a++[r])):=by simp[pc,Xu]
theorem BN {E:Xb}{K:Nat}(x:E.mode=md){L:PL}{a:List (List PL)}(q:Sl L a){d z g:Nat}(N:g<1000):∀(rest:List (List PL)) (m:List PL),pL E d z rest m->
  ∀(i k v:Nat) (o:List PL) (G:List Xz),(a.take g).drop i=rest->i+rest.length=(a.take g).length->o.length=i->rest.length<k->
  ∃b f s,Xc E K 0 [0,1,2,3,4,11,12] x15_1 k ⟨[(0,.one (.p L)),(1,.one (.p (.int .i64 (.ofNat 3)))),(2,.one (.p (.int .i64 (.ofNat d)))),(3,.one (.p (.int .i64 (.ofNat z)))),(4,.one (.p (.int .i64 (.ofNat g)))),(11,.one (.own 0 v 0 o.length)),(12,.one (.p (.int .i64 (.ofNat i))))],⟨false,v,1,pc (Xu o),false,30⟩::G⟩=
   some (.exit 0,⟨b,⟨false,s,1,pc (Xu (o++m)),false,30⟩::f⟩)/\Xh b 11=some (.one (.own 0 s 0 (o++m).length)):=by
 intro rest m h;induction h with
 |nil=>
  intro i k v o G _ w O B;obtain⟨k,rfl⟩:∃y,k=y+1:=⟨k-1,by omega⟩;simp only[Zu,Z3,ZQ]at w;have :∃b f,Xc E K 0 [0,1,2,3,4,11,12] x15_1 (k+1) ⟨[(0,.one (.p L)),(1,.one (.p (.int .i64 (.ofNat 3)))),(2,.one (.p (.int .i64 (.ofNat d)))),(3,.one (.p (.int .i64 (.ofNat z)))),(4,.one (.p (.int .i64 (.ofNat g)))),(11,.one (.own 0 v 0 o.length)),(12,.one (.p (.int .i64 (.ofNat i))))],⟨false,v,1,pc (Xu o),false,30⟩::G⟩=
   some (.exit 0,⟨b,⟨false,v,1,pc (Xu o),false,30⟩::f⟩)/\Xh b 11=some (.one (.own 0 v 0 o.length)):=by
   by_cases c:i<a.length
   ·have J:¬i<g:=by omega
    apply tN
    ·rw[Xc];simp only[Xp,Xq,reduceIte,Nat.reduceEqDiff,x15_1,q.len,c,J];rfl
    ·simp only[Xp,reduceIte,Nat.reduceEqDiff]
   ·apply tN
    ·rw[Xc];simp only[Xp,Xq,reduceIte,Nat.reduceEqDiff,x15_1,q.len,c];rfl
    ·simp only[Xp,reduceIte,Nat.reduceEqDiff]
  obtain⟨b,f,n,t⟩:=this;exact⟨b,f,v,by simpa using n,by simpa using t⟩
 |@cons R r S m I h P=>
  intro i k v o G u w O B;obtain⟨k,rfl⟩:∃y,k=y+1:=⟨k-1,by omega⟩;simp only[Zi,ZQ]at w B;have c:i<a.length:=by omega
  have e:i<g:=by omega
  obtain⟨A,C⟩:=Xf u;have j:a[i]? =some [R]:=by rw[Yc,if_pos e]at A;exact A
  have l:=fun(M:HF) (Q:IntKind)=>q.idx (h:=M) (k:=Q) (sz:=1) j rfl
  have D:Xe .i64 (.ofNat (i+1))=.ofNat (i+1):=wrap_i64 (by omega);have F:(o.length+1)*24<=lim:=by unfold lim;omega
  have H:o.length+1<=9223372036854775807:=by omega
  obtain⟨b,f,s,n,t⟩:=P (i+1) k (v+1) (o++[r]) (G++[⟨false,0,1,[[.p r]],false,30⟩]) C (by rw[ZQ];omega) (by simp;omega) (by omega);refine⟨b,f,s,?_,by simpa using t⟩;rw[Zq,Z1,Zl,Z2]at n;rw[Xc];simp only[Xp,WR,hS,Xq,VN,reduceIte,Nat.reduceEqDiff,Nat.reduceLT,x15_1,q.len,c,e,l,x,XW,I,D,F,H,Wi,XH,yF];exact n
theorem jx {B:Xr}(j:Std B){d g:Nat}(k:d<100)(b:g<1000):∀{ls:List (List PL)},(∀c∈ls,∃R,c=[R]/\Rp R)->∃e a,(X0 B fun E _=>pL E d g ls e)/\T6 e a/\(∀f∈a,U5 d (g*3) g f)/\e.length=ls.length
 |[],_=>⟨[],[],X0.of fun _ _=>.nil,.nil,(fun _ h=>by cases h),rfl⟩
 |c::ls,h=>by
  obtain⟨R,rfl,q⟩:=h c (Ze ..);obtain⟨r,v,l,m,t⟩:=nY j q k b;obtain⟨e,a,n,o,u,p⟩:=jx j k b fun c s=>h c (Zc _ s)
  exact⟨r::e,v::a,(n.and l.Xi).mono fun E K ⟨e1,e2⟩=>.cons e2 e1,.cons m o,(fun f i=>by rcases Zk.1 i with rfl|i;exact t;exact u f i),by simp[p]⟩
def eo (L:PL):Prop:=∃ls,Sl L ls/\∀c∈ls,∃R,c=[R]/\Rp R
theorem oe {B:Xr}(i:Std B){L:PL}(s:eo L){d tm mx:Nat}(u:d<100)(n:tm<1000)(l:mx<1000):
  ∃a b,Xs B 15 [.one L,.one (.int .i64 (.ofNat 3)),.one (.int .i64 (.ofNat d)),.one (.int .i64 (.ofNat tm)),.one (.int .i64 (.ofNat mx))] (.one (.Xv (Xu a)))/\T6 a b/\(∀f∈b,U5 d (tm*3) tm f)/\a.length<=mx:=by
 obtain⟨g,x,j⟩:=s;obtain⟨a,b,q,r,e,A⟩:=jx i u n (ls:=g.take mx) fun c t=>j c (YK t)
 have p:(g.take mx).length<=mx:=by rw[ZQ];omega
 refine⟨a,b,Xs.of (i.X6 _ _ rfl) ((q.and (i.Xi.and (X0.ge (mx+1)))).mono fun E K ⟨e1,k,C⟩=> ?_),r,e,by omega⟩;obtain⟨z,y,D,o,e⟩:=BN (K:=K) k x l (g.take mx) a e1 0 K 0 [] [] (by simp) (by simp) rfl (by omega);have w:(pc (Xu a)).take a.length=pc (Xu a):=Ui (Xu a) (by rw[XH];exact Zh _);have v:=fun h=>Ux 5 h (Xu a)
 have m:pc (Xu [])=[]:=rfl;rw[m]at o;simp only[ZO,Zu]at o e;simp only[Xp,Xq,reduceIte,Nat.reduceEqDiff,Nat.reduceLeDiff,Nat.reduceAdd,x15,o,e,w,v,Wi,XH,Zh]
theorem vK {B:Xr}(c:Std B){L k:PL}(l:eo L):
  ∃b a,Xs B 9 [.agg [L,k]] (.one (.Xv (Xu b)))/\T6 b a/\(∀f∈a,U5 3 12 4 f)/\b.length<=3:=by
 obtain⟨b,a,g,h,i,j⟩:=oe c l (d:=3) (tm:=4) (mx:=3) (by omega) (by omega) (by omega);refine⟨b,a,Xs.of (c.X6 _ _ rfl) ((g.Xi.and c.Xi).mono fun E K ⟨e1,e⟩=> ?_),h,i,j⟩;simp only[Xp,Xq,reduceIte,Nat.reduceEqDiff,Nat.reduceLeDiff,Nat.reduceAdd,Zs,x9,e,XW,e1]
theorem zd {B:Xr}(G:wM B)(V:pG B)(h7:Xs B 7 [] (.one (.bool true))){X S Z:PL}(hX:Rp X)(hY:eo S)(hZ:eo Z){n:Nat}{I:PL}{o:List (List Int)}{w:List Nat}
  (hO:Xs B 10 [.one (.int .u8 (.ofNat n))] (.one I)) (C:S6 I o) (OL:lZ o w) (H:Xs B 57 [.one I] (.one (.bool true))) (x:Xs B 49 [.one I] (.one (.bool true))):
  Xs B 3 [.agg [X],.agg [S,.int .u8 (.ofNat n)],.one Z] (.one (.bool true)):=by
 have W:=OL.ow;have F:=W.o8;have g:=W.ol;have z:=V.toStd;obtain⟨rs,h,k1,y,j,k4⟩:=vK z (k:=.int .u8 (.ofNat n)) hY;obtain⟨rq,qs,q1,q2,q3,q4⟩:=oe z hZ (d:=2) (tm:=3) (mx:=4) (by omega) (by omega) (by omega);obtain⟨px,p,p1,p2,p3⟩:=yw z hX;have O:=y.length;have a1:=q2.length;have c:Sl (.Xv (Xu rs)) (Xu rs):=.Xv;obtain⟨q,r,q',r',d1,d2,d3,d4⟩:=wv G.toStdO W C H x c y j (by omega) p2 p3;obtain⟨s,t,e,b,s1,s2,s3,s4,s5⟩:=p6 V C F g H x (Q:=.Xv (Xu rq)) .Xv c q2 y (by omega) q3 j;obtain⟨J,i1,i2⟩:=Cn W (a:=12) (n:=4) (by omega) (by omega) (by omega) j;obtain⟨L,j1,j2⟩:=yb z W C x j c y (by omega);obtain rfl:J=L:=by
  have :J=true↔L=true:=i2.trans j2.symm;cases J<;>cases L<;>simp_all
 have hI:=kR G.toStdB C F g H c y (fun f A=>⟨SZ (j f A).pl,by have:=(j f A).len;omega⟩) (by omega) (by have:=gz o h 0;omega) i1;have M:=vM G C F g c y (fun f A=>by have:=(j f A).len;omega) (by omega);have N:=qp z C F g c y (fun f A=>by have:=(j f A).len;omega) (by omega);have T:∀m∈aw o h,m.length=8:=fun m P=>((ln z C F g y fun f A=>by have:=(j f A).len;omega).2 m P).1
 have a0:(P8 (aw o h)).length<=3:=by
  have h1:=ar (Vz (aw o h)) [];have h2:=(Ve (aw o h)).length_eq;have h3:=dW o h;have :(P8 (aw o h)).length<=(Vz (aw o h)).length:=by simpa[P8]using h1
  omega
 have R:∀m∈(P8 (aw o h)).reverse,m.length=8:=fun m P=>T m ((jv T).2.2.2 m (by simpa using P))
 refine zc z h7 p1 k1 hO c (by omega) (zQ z d1) d2 d3 d4 q1 s1 s2 s3 s4 s5 hI j1 M N (yB _) .Xv R (by rw[List.length_reverse];omega) ?_;refine Vg fun l hl=> ?_
 obtain⟨i,Y⟩:=ZM.1 hl;have D:i<h.length:=by rw[<-O];exact(Zd.1 Y).1
 obtain⟨l',U,g2⟩:=y.get (Zg D);rw[Y]at U;cases U;obtain⟨u,v,e,z1,z2,z3⟩:=mK G.toStdO W C H x p2 g2 p3 (j _ (YR D));exact(z1.Xi.and (z2.Xi.and z3.Xi)).mono fun E K ⟨y1,y2,y3⟩=>⟨u,v,e,y1,y2,y3⟩
end Go.Proofs.YtefpgecinlekpaaGreat
