/- The terms of a map, sorted: the contract. -/
import Derived.Test.YtidginchkjhobaaGreatGr
set_option maxHeartbeats 16000000
set_option maxRecDepth 100000
namespace Go.Proofs.YtidginchkjhobaaGreat
open Go.Ev Go.Num
theorem rL {b c:Type}{f:b->Option c}:∀{l:List b} {r:List c},Xv f l=some r->r.length=l.length
 |[],r,h=>by cases h;rfl
 |x::l,r,h=>by
  simp only[Xv]at h;split at h
  ·cases h
  ·split at h
   ·cases h
   ·rename_i a;cases h;simp[rL a]
theorem eL {b c:Type}{f:b->Option c}:∀{l m:List b} {r q:List c},Xv f l=some r->Xv f m=some q->Xv f (l++m)=some (r++q)
 |[],m,r,q,h,k=>by cases h;simpa using k
 |x::l,m,r,q,h,k=>by
  simp only[Xv]at h;split at h
  ·cases h
  ·rename_i y d;split at h
   ·cases h
   ·rename_i e a;cases h;simp only[ZU,Xv,d,eL a k]
theorem zw {n o:Type}{f:n->Option o}{l m:List n}(w:l.Perm m):∀{r:List o},Xv f l=some r->∃q,Xv f m=some q/\r.Perm q:=by
 induction w with
 |nil=>intro r h;exact⟨r,h,.refl _⟩
 |cons x _ A=>
  intro r h;simp only[Xv]at h;split at h
  ·cases h
  ·rename_i y z;split at h
   ·cases h
   ·rename_i D i;cases h;obtain⟨q,d,e⟩:=A i;exact⟨y::q,by simp only[Xv,z,d],e.cons y⟩
 |swap x y l=>
  intro r h;simp only[Xv]at h;split at h
  ·cases h
  ·rename_i a u;split at h
   ·cases h
   ·rename_i C c;cases h;split at c
    ·cases c
    ·rename_i b v;split at c
     ·cases c
     ·rename_i p g;cases c;exact⟨b::a::p,by simp only[Xv,u,v,g],.swap ..⟩
 |trans _ _ j k=>
  intro r h;obtain⟨q,d,e⟩:=j h;obtain⟨B,s,t⟩:=k d;exact⟨B,s,e.trans t⟩
theorem Ae {c:Y'}{t:N'}(h:dZ c=some t):isTerm t=true:=by
 obtain⟨n,y,z,u,m,b,-,rfl,a,-,-⟩:=NK h;unfold isTerm;rw[NB a];rfl
theorem aG:∀{l:K'} {a:I'},Xv dZ l=some a->TK a
 |[],a,h=>by cases h;exact fun _ h=>by cases h
 |c::l,a,h=>by
  simp only[Xv]at h;split at h
  ·cases h
  ·rename_i y e;split at h
   ·cases h
   ·rename_i f d;cases h;intro x b;rcases Zj.1 b with rfl|b
    ·exact Ae e
    ·exact aG d x b
theorem rA {a:I'}(b:ku a)(g:a.Nodup):Ta a=true:=by
 induction a with
 |nil=>rfl
 |cons c a m=>
  obtain⟨e,i⟩:=List.nodup_cons.1 g;simp only[Ta,Zs,ZI,YB];refine⟨fun d f=> ?_,m (fun x k y l=>b x (Zb _ k) y (Zb _ l)) i⟩;cases j:jJ Nat.beq (Uk c) (Uk d)with
  |false=>rfl
  |true=>
   exfalso;have :Uk c=Uk d:=gj (fun x y h=>Zl h) _ _ j;rw[b c (Zc ..) d (Zb _ f) this]at e;exact e f
theorem QG:∀{a:I'},Ta a=true->a.Nodup
 |[],_=>List.nodup_nil
 |c::a,h=>by
  simp only[Ta,Zs,ZI,YB]at h;refine List.nodup_cons.2 ⟨fun b=> ?_,QG h.2⟩;have:=h.1 c b;rw[dW]at this;cases this
theorem mc {b c:I'}(h:Ta b=true)(a:c.Sublist b):Ta c=true:=
 rA (fun x d y e=>S4 h x (a.subset d) y (a.subset e)) (a.nodup (QG h))
theorem iT {b c:I'}(h:Ta b=true)(a:c.Perm b):Ta c=true:=
 rA (fun x d y e=>S4 h x (a.mem_iff.1 d) y (a.mem_iff.1 e)) (a.nodup_iff.2 (QG h))
theorem yh {P:Program}(b2:P.follows .mixedOrders=true){B:Xs}(hB:Is B)(hE:∀K n,Ww P (B.E K n))(hf:DH P 132 yJ)(args:X')(H:V')(d:DV)(H':V')(h:R4 args H=some (d,H')):
  CH P 132 args H d H'/\pT P 132:=by
 unfold R4 at h;split at h
 ·rename_i i;split at h
  ·rename_i b hb;obtain⟨M,h⟩:=Wg h;simp only[Zs]at M;obtain⟨⟨⟨hm,c6⟩,a1⟩,hl⟩:=M;have a1:=Zl a1;have hl:b.ch.length<60000:=by
    have:=hl;rw[cu]at this;simpa using this
   split at h
   ·rename_i f D;obtain⟨c1,h⟩:=XX h;simp only[Zp]at h;obtain⟨rfl,rfl⟩:=h;have a2:=aG D;have d0:=rL D;have hF:=(((lH hB.toStd D).and hB.toStd.Xk).and (yk hB (L:=(f.filter nz).length) (Z7 (List.length_filter_le ..) (by omega))));obtain⟨N,hN⟩:=hF;obtain⟨⟨hs,I⟩,b5⟩:=hN N N (Ze _) (Ze _);generalize b6:B.E N N=E at hs I b5;have J:Ww P E:=b6▸hE N N;have key:CH P 132 [.one (.mp 0)] [VN b] (inj (.one (.Xn (TH (f.filter nz))))) ([VN b].map VN)/\pT P 132:=by
     have Y:(VN b).ch=b.ch:=rfl;have Z:(VN b).mp=true:=hm;have a7:(VN b).fz=true:=rfl;have F:Nat.beq (VN b).ty 1=true:=c6;have U:(VN b).sz=8:=a1;have a5:VN (VN b)=VN b:=rfl;generalize c8:VN b=B0 at Y Z a7 F U a5;let Inv:K'->St->Prop:=fun l s=>∃T v G dn tl g,s=⟨T,B0::⟨false,v,12,pc (g.filter nz),false,75⟩::IK::G⟩/\Xh T 3=some (.one (.own 1 v 0 (g.filter nz).length))/\Xh T 10=some (.one (.ptr 2 0 0 0))/\Xv dZ dn=some g/\Xv dZ l=some tl/\(g++tl).Perm f
     have a0:∀l s,Inv l s->∀p∈Pf l,∃s',Sp E N yJ 2 s p.1=some s'/\Inv p.2 s':=by
      rintro l s ⟨T,v,G,dn,tl,g,rfl,h3,X,a4,C,a⟩ p hp;have c2:=aj l p hp;obtain⟨q,S,b4⟩:=zw c2.symm C;obtain⟨c,l'⟩:=p;simp only[Xv]at S;split at S
      ·cases S
      ·rename_i t ht;split at S
       ·cases S
       ·rename_i a3 W;cases S;obtain⟨n,y,z,u,m,es,rfl,rfl,b3,c9,hz⟩:=NK ht;have b1:(PL.bool n::y::z::u::mo m)∈f:=a.mem_iff.1 (ZW.2 (.inr (b4.mem_iff.2 (Zc ..))));obtain⟨s0,e1,e2⟩:=hs _ b1 n y z u (mo m) rfl;have b0:(g.filter nz).length<100000:=by
         have h1:(g++tl).length=f.length:=a.length_eq;have h2:(g.filter nz).length<=g.length:=List.length_filter_le ..;simp at h1;omega
        have j:(g++[PL.bool n::y::z::u::mo m]++a3).Perm f:=by
         refine List.Perm.trans ?_ a;rw[Zq,ZY];exact(b4.symm).append_left g
        have Q:Xv dZ (dn++[Xw m++[.p (.bool n),.p y,.p z,.p u]])=some (g++[PL.bool n::y::z::u::mo m]):=eL a4 (by simp only[Xv,ht]);cases r:nz (PL.bool n::y::z::u::mo m)with
        |true=>
         rw[r]at e2;obtain⟨T',G',g1,g2,g3⟩:=Br (K:=N) I b3.1 e1 e2 (B0:=B0) (G:=G) b0 h3 X;refine⟨_,g1,T',v+1,G',_,a3,_,?_,?_,g3,Q,W,j⟩
         ·rw[List.filter_append];simp[r]
         ·rw[g2,List.filter_append];simp[r]
        |false=>
         rw[r]at e2;obtain⟨T',G',g1,g2,g3⟩:=EB (K:=N) I b3.1 e1 e2 (B0:=B0) (G:=G) h3 X;refine⟨_,g1,T',v,G',_,a3,_,?_,?_,g3,Q,W,j⟩
         ·rw[List.filter_append];simp[r]
         ·rw[g2,List.filter_append];simp[r]
     have b8:[B0].map VN=[B0]:=by simp[a5]
     have b9:128*b.ch.length<=lim:=by unfold lim;omega
     have a9:b.ch.length<=9223372036854775807:=by omega
     have S:TE (Xj [B0]) [.one (.mp 0)]=some ⟨LB b.ch.length,[],[],[0]⟩:=by
      have c4:=Zl F;have hh:Xj [B0] 0=some B0:=rfl;simp only[TE,hh,Z,c4,Y];rfl
     have h0:XI E N 0 yJ.BR ⟨UZ [.one (.mp 0)] 0,[B0].map VN⟩=some (.normal,⟨[(2,.one (.p .Xq)),(0,.one (.mp 0))],[B0]⟩):=by
      rw[b8];simp only[Xo,yJ]
     have h1:XI E N 0 yJ.BQ ⟨[(2,.one (.p .Xq)),(0,.one (.mp 0))],[B0]⟩=some (.normal,⟨[(3,.one (.own 1 0 0 0)),(8,.one (.own 1 0 0 0)),(7,LB b.ch.length),(6,.one (.mp 0)),(2,.one (.p .Xq)),(0,.one (.mp 0))],[B0,⟨false,0,12,[],false,75⟩]⟩):=by
      simp only[Xo,Xr,yJ,kW,reduceIte,Nat.reduceEqDiff,Nat.reduceAdd,Zw,S,b9,a9]
     have b7:Inv b.ch ⟨(10,.one (.ptr 2 0 0 0))::(9,.one (.mp 0))::[(3,.one (.own 1 0 0 0)),(8,.one (.own 1 0 0 0)),(7,LB b.ch.length),(6,.one (.mp 0)),(2,.one (.p .Xq)),(0,.one (.mp 0))],[B0,⟨false,0,12,[],false,75⟩]++[⟨true,0,0,[],true,2⟩]⟩:=
      ⟨_,0,[],[],f,[],rfl,rfl,rfl,rfl,D,.refl _⟩
     obtain⟨ss,a6,w⟩:=jD Inv a0 b.ch.length b.ch _ rfl b7;refine yI E J (xK J b2) N hf [.one (.mp 0)] [B0] (.one (.Xn (TH (f.filter nz)))) (ss:=ss) (id:=0) (b:=B0) (by simp[yJ]) h0 h1 rfl rfl Z a7 F U ?_ fun s c3=> ?_
     ·rw[Y];exact a6
     ·obtain⟨T,v,G,dn,tl,g,rfl,h3,X,a4,C,a⟩:=w s c3;cases C;rw[ZE]at a;have k:(g.filter nz).Perm (f.filter nz):=a.filter nz;have R:Ta (f.filter nz)=true:=mc c1 List.filter_sublist;have V:TK (f.filter nz):=fun c M=>a2 c ((Yo.1 M).1)
      have hu:=oy V (S4 R) k;generalize g.filter nz=o at k h3 hu;have A:=b5 (B0::⟨false,v,12,pc o,false,75⟩::IK::G) 1 v 75 o k.length_eq rfl (fun c M=>V c (k.mem_iff.1 M)) (iT R k);rw[hu]at A;have c0:o.length=(TH (f.filter nz)).length:=by rw[k.length_eq,(Uz _).length_eq]
      have a8:=fun h=>Ve 5 h (TH (f.filter nz))
      have c5:=WV (TH (f.filter nz)) (Ze _);rw[c0]at h3 A;unfold uw;simp only[Xo,Vx,Xr,VR,yJ,reduceIte,Nat.reduceEqDiff,h3,I,X4,A,Wm,Ze,c5,a8]
    refine⟨?_,key.2⟩;refine F6 key.1 hb hm ?_;have w:∀(l:K') (f:I'),Xv dZ l=some f->∀c∈l,∀d∈c,∃l,d=DL.p l:=by
     intro l;induction l with
     |nil=>intro f _ c M;cases M
     |cons c l ih=>
      intro f h x hx d O;simp only[Xv]at h;split at h
      ·cases h
      ·rename_i y hy;split at h
       ·cases h
       ·rename_i ys c7;rcases Zj.1 hx with rfl|hx
        ·obtain⟨n,y,z,u,m,es,rfl,-,-,-,-⟩:=NK hy;rcases ZW.1 O with O|O
         ·simp only[Xw,ZM]at O;obtain⟨e,-,rfl⟩:=O;exact⟨_,rfl⟩
         ·simp only[Zj,ZV,or_false]at O;rcases O with rfl|rfl|rfl|rfl<;>exact⟨_,rfl⟩
        ·exact ih ys c7 x hx d O
    exact w _ _ D
   ·cases h
  ·cases h
 ·cases h
def aH (m:P')(n y d u:PL):Y':=Xw m++[.p n,.p y,.p d,.p u]
def JY (c:Y')(t:Qm):Prop:=∃n y d u,c=aH t.2 (.bool n) y (.bool d) u/\Ri [.bool n,y,.bool d,u] t.1/\XD t.2
abbrev Oj (ch:K')(ts:Z'):Prop:=XB JY ch ts
def Ty (z:Rat)(m:P'):Z'->Z'
 |[]=>[(z,m)]
 |t::ts=>if m=t.2 then(t.1+z,m)::ts else t::Ty z m ts
theorem ea {m:P'}(a:m.length=8)(n y d u:PL):(aH m n y d u).take 8=Xw m:=by
 rw[aH,List.take_append_of_le_length (by rw[Xc];omega),Zd (by rw[Xc];omega)]
theorem Af {m:P'}(a:m.length=8)(n y d u:PL):(aH m n y d u).drop 8=[.p n,.p y,.p d,.p u]:=by
 rw[aH,YT (by rw[Xc];omega),Zo (by rw[Xc];omega)];rfl
theorem zZ {m:P'}(l:m.length=8){ch:K'}{b:Z'}(h:Oj ch b)(f:∀t∈b,m≠t.2)(z:Rat):∀k,Sx .i64 8 (Xw m) ch k=some none/\Ty z m b=b++[(z,m)]:=by
 induction h with
 |nil=>intro k;exact⟨rfl,rfl⟩
 |@cons c t ch b j h p=>
  intro k;obtain⟨n,y,d,u,rfl,-,a⟩:=j;have e:=f t (Zc ..);obtain⟨g,i⟩:=p (fun t o=>f t (Zb _ o)) (k+1);refine⟨?_,?_⟩
  ·simp only[Sx,ea a.1,Uq m t.2 (by rw[l,a.1]),decide_eq_false e,g]
  ·simp only[Ty,if_neg e,i,ZU]
theorem zY {m:P'}(q:m.length=8){ch:K'}{f:Z'}(h:Oj ch f)(p:∃t∈f,m=t.2)(z:Rat):∃i c t,ch[i]? =some c/\f[i]? =some t/\t.2=m/\JY c t/\(∀k,Sx .i64 8 (Xw m) ch k=some (some (k+i,c)))/\Ty z m f=f.set i (t.1+z,m):=by
 induction h with
 |nil=>obtain⟨t,B,-⟩:=p;cases B
 |@cons c t ch f o h C=>
  have g:=o;obtain⟨n,y,d,u,rfl,-,a⟩:=g;by_cases e:m=t.2
  ·refine⟨0,_,t,rfl,rfl,e.symm,o,fun k=> ?_,?_⟩
   ·simp only[Sx,ea a.1,Uq m t.2 (by rw[q,a.1]),decide_eq_true e];rfl
   ·simp only[Ty,if_pos e,List.set_cons_zero]
  ·obtain⟨i,c,j,r,s,v,w,x,A⟩:=C (by
    obtain⟨j,b,l⟩:=p;rcases Zj.1 b with rfl|b
    ·exact absurd l e
    ·exact⟨j,b,l⟩)
   refine⟨i+1,c,j,by simpa using r,by simpa using s,v,w,fun k=> ?_,?_⟩
   ·simp only[Sx,ea a.1,Uq m t.2 (by rw[q,a.1]),decide_eq_false e,x (k+1)];rw[show k+1+i=k+(i+1)by omega]
   ·simp only[Ty,if_neg e,A,YQ]
abbrev Tc (ch:K'):Xx:=⟨false,0,8,ch,true,1⟩
theorem rS {m:P'}(c:m.length=8){ch:K'}(a:Sx .i64 8 (Xw m) ch 0=some none)(X:V'):U9 8 .i64 true [.bool false,.Xq,.bool false,.Xq] true (Xj (Tc ch::X)) [.one (.mp 0),.agg (Xw m)]=
  some ⟨.X9 [.agg [.p (.bool false),.p .Xq,.p (.bool false),.p .Xq],.one (.p (.bool false))],[],[],[0]⟩:=by
 have b:Wk .i64 (Xw m) (Xw m)=some true:=by rw[Uq m m rfl];simp
 have h0:Xj (Tc ch::X) 0=some (Tc ch):=rfl;simp only[U9,h0,aA,a,b,Xc,c];rfl
theorem rQ {m:P'}(a:m.length=8){ch:K'}{i:Nat}{n y d u:PL}(b:Sx .i64 8 (Xw m) ch 0=some (some (i,aH m n y d u)))(X:V'):U9 8 .i64 true [.bool false,.Xq,.bool false,.Xq] true (Xj (Tc ch::X)) [.one (.mp 0),.agg (Xw m)]=
  some ⟨.X9 [.agg [.p n,.p y,.p d,.p u],.one (.p (.bool true))],[],[],[0]⟩:=by
 have c:Wk .i64 (Xw m) (Xw m)=some true:=by rw[Uq m m rfl];simp
 have h0:Xj (Tc ch::X) 0=some (Tc ch):=rfl;simp only[U9,h0,aA,b,c,Xc,a,vt,Af a];rfl
theorem qf {m:P'}(c:m.length=8){ch:K'}(a:Sx .i64 8 (Xw m) ch 0=some none)(n y d u:PL)(X:V'):VA 8 .i64 true 4 (Xj (Tc ch::X)) [.one (.mp 0),.agg (Xw m),.agg [.p n,.p y,.p d,.p u]]=
  some ⟨.X9 [],[],[(0,Tc (ch++[aH m n y d u]))],[0]⟩:=by
 have b:Wk .i64 (Xw m) (Xw m)=some true:=by rw[Uq m m rfl];simp
 have h0:Xj (Tc ch::X) 0=some (Tc ch):=rfl;simp only[VA,h0,gy,a,b,Xc,c,DV.cells];rfl
theorem qe {m:P'}(e:m.length=8){ch:K'}{i:Nat}{c:Y'}(a:Sx .i64 8 (Xw m) ch 0=some (some (i,c)))(n y d u:PL)(X:V'):VA 8 .i64 true 4 (Xj (Tc ch::X)) [.one (.mp 0),.agg (Xw m),.agg [.p n,.p y,.p d,.p u]]=
  some ⟨.X9 [],[],[(0,Tc (ch.set i (aH m n y d u)))],[0]⟩:=by
 have b:Wk .i64 (Xw m) (Xw m)=some true:=by rw[Uq m m rfl];simp
 have h0:Xj (Tc ch::X) 0=some (Tc ch):=rfl;simp only[VA,h0,gy,a,b,Xc,e,DV.cells];rfl
theorem sW {E:Xa}{K:Nat}(e:E.mode=md){n y d u:PL}{m:P'}(a:m.length=8){ch:K'}(b:Sx .i64 8 (Xw m) ch 0=some none)(G:V'):
  ∃c,VD E K x131 [.one (.mp 0),.agg [.p n,.p y,.p d,.p u],.agg (Xw m)] (Tc ch::G)=some (.X9 [],Tc (ch++[aH m n y d u])::(G++c)):=by
 have f:(Xw m).take 8=Xw m:=Zd (by rw[Xc];omega);apply Exists.intro;simp only[Xo,Vx,kT,Xr,VR,reduceIte,Nat.reduceEqDiff,Nat.reduceLeDiff,Nat.reduceAdd,x131,a,Xc,f,rS a b,qf a b,Zq];rfl
theorem sV {E:Xa}{K:Nat}(b:E.mode=md){n y d u g l c j h o e k:PL}{m:P'}(a:m.length=8){ch:K'}{i:Nat}(f:Sx .i64 8 (Xw m) ch 0=some (some (i,aH m g l c j)))
  (r:E.pure 157 [.agg [g,l,c,j],.agg [n,y,d,u]]=some (.agg [h,o,e,k])) (G:V'):
  ∃q,VD E K x131 [.one (.mp 0),.agg [.p n,.p y,.p d,.p u],.agg (Xw m)] (Tc ch::G)=some (.X9 [],Tc (ch.set i (aH m h o e k))::(G++q)):=by
 have s:(Xw m).take 8=Xw m:=Zd (by rw[Xc];omega);apply Exists.intro;simp only[Xo,Vx,kT,Xr,VR,reduceIte,Nat.reduceEqDiff,Nat.reduceLeDiff,Nat.reduceAdd,x131,b,X4,a,Xc,s,rQ a f,qe a f,r,Zq];rfl
theorem Oj.set {ch:K'}{a:Z'}(h:Oj ch a){c:Y'}{t:Qm}(e:JY c t):∀i,Oj (ch.set i c) (a.set i t):=by
 induction h with
 |nil=>intro i;exact .nil
 |cons b d f=>
  intro i;cases i with
  |zero=>exact .cons e d
  |succ i=>exact .cons b (f i)
theorem Oj.snoc {ch:K'}{a:Z'}(h:Oj ch a){c:Y'}{t:Qm}(b:JY c t):Oj (ch++[c]) (a++[t]):=XB.append h (.cons b .nil)
def GF (E:Xa)(c:N')(m:P')(ch ch':K'):Prop:=
 ∀G,∃G',E.heap 131 [.one (.mp 0),.agg (c.map .p),.agg (Xw m)] (Tc ch::G)=some (.X9 [],Tc ch'::(G++G'))
theorem sY {B:Xs}(f:Std B){ch:K'}{l:Z'}(h:Oj ch l){c:N'}{z:Rat}(v:Ri c z){m:P'}(a:XD m)(W:Sq z)(U:∀t∈l,Sq t.1):
  ∃b,Oj b (Ty z m l)/\XS B fun E _=>GF E c m ch b:=by
 obtain⟨n,y,d,u,rfl⟩:=v.len;by_cases C:∃t∈l,m=t.2
 ·obtain⟨i,c,t,h1,I,J,L,O,r⟩:=zY a.1 h C z;obtain⟨n2,y2,Z,u2,rfl,Y,q3⟩:=L;subst J;have o:=O 0;rw[Yg]at o;obtain⟨e,R,j⟩:=iA f Y v (U t (Zk I)) W;obtain⟨D,H,A,F,rfl⟩:=j.len;refine⟨ch.set i (aH t.2 (.bool D) H (.bool A) F),?_,?_⟩
  ·rw[r];exact Oj.set h (t:=(t.1+z,t.2)) ⟨D,H,A,F,rfl,j,a⟩ i
  ·obtain⟨N,Q⟩:=R.Xk;obtain⟨M,s⟩:=f.Xk;refine⟨max N M+1,fun K k P S G=> ?_⟩;obtain⟨k,rfl⟩:∃w,k=w+1:=⟨k-1,by omega⟩;obtain⟨q,g⟩:=sV (K:=K) (s K k (by omega) (by omega)) a.1 o (Q K k (by omega) (by omega)) G;refine⟨q,?_⟩;show(match B.X 131 with
    |some x=>VD (B.E K k) K x [.one (.mp 0),.agg [.p (.bool n),.p y,.p (.bool d),.p u],.agg (Xw t.2)] (Tc ch::G)
    |none=>(B.E K k).heap 131 [.one (.mp 0),.agg [.p (.bool n),.p y,.p (.bool d),.p u],.agg (Xw t.2)] (Tc ch::G))=_
   rw[f.Wa 131 x131 rfl];exact g
 ·have T:∀t∈l,m≠t.2:=fun t V e=>C ⟨t,V,e⟩
  obtain⟨o,r⟩:=zZ a.1 h T z 0;refine⟨ch++[aH m (.bool n) y (.bool d) u],?_,?_⟩
  ·rw[r];exact Oj.snoc h (t:=(z,m)) ⟨n,y,d,u,rfl,v,a⟩
  ·obtain⟨M,s⟩:=f.Xk;refine⟨M+1,fun K k P S G=> ?_⟩;obtain⟨k,rfl⟩:∃w,k=w+1:=⟨k-1,by omega⟩;obtain⟨q,g⟩:=sW (K:=K) (n:=.bool n) (y:=y) (d:=.bool d) (u:=u) (s K k (by omega) (by omega)) a.1 o G;refine⟨q,?_⟩;show(match B.X 131 with
    |some x=>VD (B.E K k) K x [.one (.mp 0),.agg [.p (.bool n),.p y,.p (.bool d),.p u],.agg (Xw m)] (Tc ch::G)
    |none=>(B.E K k).heap 131 [.one (.mp 0),.agg [.p (.bool n),.p y,.p (.bool d),.p u],.agg (Xw m)] (Tc ch::G))=_
   rw[f.Wa 131 x131 rfl];exact g
inductive nw (E:Xa)(c:N')(m:P'):I'->K'->K'->Prop
 |nil {ch:K'}:nw E c m [] ch ch
 |cons {x y z u r1 r2 r3 r4:PL} {k:P'} {qs:I'} {ch ch1 ch2:K'} (hk:XD k) (hs:XD (Xg m k)) (h1:E.pure 130 [.agg (mo m),.agg (mo k)]=some (.X9 [.agg (mo (Xg m k)),.one (LA 0)]))
   (h2:E.pure 64 [.agg c,.agg [x,y,z,u]]=some (.agg [r1,r2,r3,r4])) (h3:GF E [r1,r2,r3,r4] (Xg m k) ch ch1) (h:nw E c m qs ch1 ch2):nw E c m ((x::y::z::u::mo k)::qs) ch ch2
inductive kn (E:Xa)(qs:I'):I'->K'->K'->Prop
 |nil {ch:K'}:kn E qs [] ch ch
 |cons {x y z u:PL} {m:P'} {ps:I'} {ch ch1 ch2:K'} (hm:XD m) (h1:nw E [x,y,z,u] m qs ch ch1) (h:kn E qs ps ch1 ch2):kn E qs ((x::y::z::u::mo m)::ps) ch ch2
theorem Ce {E:Xa}{K:Nat}{lp f:PL}(v:E.mode=md){a:I'}(sl:Sl f a)(hl:a.length<1000000){x y z u:PL}{m:P'}(t:m.length=8)(j:Nat){o1 o2:DV}:∀(rest:I') (ch d:K'),nw E [x,y,z,u] m rest ch d->
  ∀(i k:Nat) (G:V'),G[j]? =some ⟨false,0,12,[.p x::.p y::.p z::.p u::Xw m],false,75⟩->a.drop i=rest->i+rest.length=a.length->rest.length<k->
  ∃c g,Xb E K 0 [1,6,8,14,15,16,20,21,22] x78_1 k ⟨[(1,.one (.p f)),(6,.one (.mp 0)),(8,.one (.ptr (j+1) 0 0 0)),(14,.one (.p lp)),(15,o1),(16,o2),(20,.one (.p f)),(21,LB a.length),(22,LB i)],Tc ch::G⟩=
    some (.exit 2,⟨c,Tc d::g⟩)/\Xh c 1=some (.one (.p f))/\Xh c 6=some (.one (.mp 0))/\Xh c 14=some (.one (.p lp))/\Xh c 15=some o1/\Xh c 16=some o2:=by
 intro rest ch d h;induction h with
 |@nil ch=>
  intro i k G n D l q;obtain⟨k,rfl⟩:∃A,k=A+1:=⟨k-1,by omega⟩;have e:¬i<a.length:=by simp at l;omega
  apply DU
  ·rw[Xb];simp only[Xo,Xr,reduceIte,Nat.reduceEqDiff,x78_1,e];rfl
  ·simp only[Xo,reduceIte,Nat.reduceEqDiff,and_self]
 |@cons x2 H I F r1 r2 r3 r4 b qs ch N O q Y U V W h Z=>
  intro i k G n D l s;obtain⟨k,rfl⟩:∃A,k=A+1:=⟨k-1,by omega⟩;simp only[Zi]at l s;have e:i<a.length:=by omega
  obtain⟨T,P⟩:=Xi D;have iq:=fun(X:HF) (kd:IntKind)=>sl.idx (h:=X) (k:=kd) (sz:=12) T (by simp[XF,q.1])
  have Q:Xe .i64 (.ofNat (i+1))=.ofNat (i+1):=wrap_i64 (by omega);have r:=q.1;have w:=Y.1;have t1:(Xw m).take 8=Xw m:=Zd (by rw[Xc];omega);have t2:(Xw b).take 8=Xw b:=Zd (by rw[Xc];omega);have t3:(Xw (Xg m b)).take 8=Xw (Xg m b):=Zd (by rw[Xc];omega);have d1:(Xw m).drop 8=[]:=Zo (by rw[Xc];omega);have d2:(Xw b).drop 8=[]:=Zo (by rw[Xc];omega);have d3:(Xw (Xg m b)).drop 8=[]:=Zo (by rw[Xc];omega);have o:j<G.length:=(Zf.1 n).1;have C:∀L:V',(G++L)[j]? =some ⟨false,0,12,[.p x::.p y::.p z::.p u::Xw m],false,75⟩:=fun L=>by rw[ZA o];exact n
  obtain⟨J,B⟩:=W (G++[⟨false,0,12,[.p x2::.p H::.p I::.p F::Xw b],false,75⟩,⟨false,0,8,[Xw (Xg m b)],false,73⟩]);simp only[Zt,ZN]at B;obtain⟨c,g,R,S⟩:=Z (i+1) k (G++([⟨false,0,12,[.p x2::.p H::.p I::.p F::Xw b],false,75⟩,⟨false,0,8,[Xw (Xg m b)],false,73⟩]++J)) (C _) P (by omega) (by omega);refine⟨c,g,?_,S⟩;have M:SF [0,6,5,2,4,1,3] 7=true:=rfl;have n1:¬G.length+2+1<=j+1:=by omega
  have n2:¬G.length+2+1<=G.length+1:=by omega
  have n3:¬G.length+2+1<=G.length+1+1:=by omega
  rw[Xb];simp only[Xo,Vx,kT,ite_self,M,n1,n2,n3,Xr,VR,reduceIte,Nat.reduceEqDiff,Nat.reduceLeDiff,Nat.reduceAdd,x78_1,e,iq,C,Wj,Xc,r,w,t,t1,t2,t3,Wb,Wf,v,X4,U,V,B,Q];rw[Zq];exact R
theorem zk {E:Xa}{K:Nat}{lp v:PL}(q:E.mode=md){a e:I'}(W:Sl lp a)(w:Sl v e)(hl:a.length<1000000)(o:e.length<1000000)(P:e.length<K):∀(rest:I') (ch b:K'),kn E e rest ch b->
  ∀(i k:Nat) (G:V'),a.drop i=rest->i+rest.length=a.length->rest.length<k->
  ∃f g,Xb E K 0 [1,6,14,15,16] x78_2 k ⟨[(1,.one (.p v)),(6,.one (.mp 0)),(14,.one (.p lp)),(15,LB a.length),(16,LB i)],Tc ch::G⟩=
    some (.exit 0,⟨f,Tc b::g⟩)/\Xh f 6=some (.one (.mp 0)):=by
 intro rest ch b h;induction h with
 |@nil ch=>
  intro i k G s l hk;obtain⟨k,rfl⟩:∃r,k=r+1:=⟨k-1,by omega⟩;have c:¬i<a.length:=by simp at l;omega
  apply DU
  ·rw[Xb];simp only[Xo,Xr,reduceIte,Nat.reduceEqDiff,x78_2,c];rfl
  ·simp only[Xo,reduceIte,Nat.reduceEqDiff]
 |@cons x y z u m ps ch j B t O h R=>
  intro i k G s l n;obtain⟨k,rfl⟩:∃r,k=r+1:=⟨k-1,by omega⟩;simp only[Zi]at l n;have c:i<a.length:=by omega
  obtain⟨N,C⟩:=Xi s;have S:=fun(Q:HF) (T:IntKind)=>W.idx (h:=Q) (k:=T) (sz:=12) N (by simp[XF,t.1])
  have D:Xe .i64 (.ofNat (i+1))=.ofNat (i+1):=wrap_i64 (by omega);have d:=t.1;have X:(Xw m).take 8=Xw m:=Zd (by rw[Xc];omega);have Z:(Xw m).drop 8=[]:=Zo (by rw[Xc];omega);obtain⟨Y,A,F,H,I,J,L,M⟩:=Ce (K:=K) (lp:=lp) q w o d G.length (o1:=LB a.length) (o2:=LB i) e ch j O 0 K (G++[⟨false,0,12,[.p x::.p y::.p z::.p u::Xw m],false,75⟩]) (by simp) (by simp) (by simp) P;obtain⟨f,g,U,V⟩:=R (i+1) k A C (by omega) (by omega);refine⟨f,g,?_,V⟩;rw[Xb];simp only[Xo,kT,Xr,VR,reduceIte,Nat.reduceEqDiff,Nat.reduceLeDiff,Nat.reduceAdd,x78_2,c,S,Wj,Xc,d,X,w.len,F,H,I,J,L,M,D];exact U
structure vM (B:Xs):Prop extends Std B where
 sorted:∀args H r,R4 args H=some r->B.E0.heap 132 args H=some r
theorem nu (z:Rat)(m:P')(b:P'->Rat):∀a,X2 (Ty z m a) b=X2 a b+z*b m
 |[]=>by simp only[Ty,X2];grind
 |t::a=>by
  unfold Ty;split
  ·rename_i e;subst e;simp only[X2];grind
  ·simp only[X2,nu z m b a];grind
theorem j4 (z:Rat)(m:P'):∀a,((Ty z m a).map (·.2))=a.map (·.2)\/(m∉a.map (·.2)/\(Ty z m a).map (·.2)=a.map (·.2)++[m])
 |[]=>.inr ⟨by simp,rfl⟩
 |t::a=>by
  unfold Ty;split
  ·rename_i e;subst e;exact .inl rfl
  ·rename_i e;rcases j4 z m a with h|⟨h1,h2⟩
   ·exact .inl (by simp[h])
   ·exact .inr ⟨by simp;exact⟨e,by simpa using h1⟩,by simp[h2]⟩
theorem tE {z:Rat}{m:P'}{c:Z'}(h:(c.map (·.2)).Nodup):((Ty z m c).map (·.2)).Nodup:=by
 rcases j4 z m c with h1|⟨h1,h2⟩
 ·rw[h1];exact h
 ·rw[h2,List.nodup_append];refine⟨h,by simp,fun a f b d=> ?_⟩;simp at d;subst d;intro e;exact h1 (e▸f)
def Fr (D c:Nat)(x:Rat):Prop:=∃z:Int,x*(D:Rat)=(z:Rat)/\z.natAbs<=c
def VQ (D c:Nat)(ts:Z'):Prop:=∀t∈ts,Fr D c t.1
theorem Fr.add {D c b:Nat}{x y:Rat}(h:Fr D c x)(k:Fr D b y):Fr D (c+b) (x+y):=by
 obtain⟨z,e,f⟩:=h;obtain⟨d,a,g⟩:=k;exact⟨z+d,by rw[Rat.add_mul,e,a,Rat.intCast_add],by omega⟩
theorem Fr.mul {D a c b:Nat}{x y:Rat}(h:Fr D c x)(k:Fr a b y):Fr (D*a) (c*b) (x*y):=by
 obtain⟨z,e,f⟩:=h;obtain⟨i,d,g⟩:=k;refine⟨z*i,?_,by rw[Yq];exact ZT f g⟩;rw[YM,<-e,<-d,Rat.natCast_mul];grind
theorem Fr.mono {D c b:Nat}{x:Rat}(h:Fr D c x)(k:c<=b):Fr D b x:=by
 obtain⟨z,e,a⟩:=h;exact⟨z,e,by omega⟩
theorem j7 {z:Rat}{m:P'}{D c b:Nat}(e:Fr D b z):∀{d:Z'},VQ D c d->VQ D (c+b) (Ty z m d)
 |[],_=>by intro t a;simp[Ty]at a;subst a;exact e.mono (by omega)
 |u::d,h=>by
  have f:=h u (Zc ..);have g:VQ D c d:=fun t a=>h t (Zb _ a)
  unfold Ty;split
  ·intro t a;rcases Zj.1 a with rfl|a
   ·exact f.add e
   ·exact(g t a).mono (by omega)
  ·intro t a;rcases Zj.1 a with rfl|a
   ·exact f.mono (by omega)
   ·exact j7 e g t a
theorem nv (z:Rat)(m:P'):∀a:Z',(Ty z m a).length<=a.length+1
 |[]=>by simp[Ty]
 |t::a=>by
  unfold Ty;split
  ·simp
  ·have:=nv z m a;simp;omega
def xu (z:Rat)(m:P'):Z'->Z'->Z'
 |[],acc=>acc
 |u::us,acc=>xu z m us (Ty (z*u.1) (Xg m u.2) acc)
def kJ (us:Z'):Z'->Z'->Z'
 |[],acc=>acc
 |t::ts,acc=>kJ us ts (xu t.1 t.2 us acc)
theorem xr (z:Rat)(m:P')(c:P'->Rat):∀(b a:Z'),X2 (xu z m b a) c=X2 a c+z*X2 b fun k=>c (Xg m k)
 |[],a=>by simp only[xu,X2];grind
 |u::b,a=>by
  simp only[xu,xr z m c b,nu,X2]
  grind
theorem rp (d:Z')(c:P'->Rat):∀(b a:Z'),X2 (kJ d b a) c=X2 a c+X2 b fun m=>X2 d fun k=>c (Xg m k)
 |[],a=>by simp only[kJ,X2];grind
 |t::b,a=>by
  simp only[kJ,rp d c b,xr,X2];grind
theorem mF {z:Rat}{m:P'}:∀{us a:Z'},(a.map (·.2)).Nodup->((xu z m us a).map (·.2)).Nodup
 |[],_,h=>h
 |_::us,_,h=>mF (us:=us) (tE h)
theorem iO {b:Z'}:∀{ts a:Z'},(a.map (·.2)).Nodup->((kJ b ts a).map (·.2)).Nodup
 |[],_,h=>h
 |_::ts,_,h=>iO (ts:=ts) (mF h)
theorem Cu {z:Rat}{m:P'}{D e a b:Nat}(f:Fr D a z):∀{us d:Z'} {c:Nat},VQ e b us->VQ (D*e) c d->VQ (D*e) (c+us.length*(a*b)) (xu z m us d)
 |[],_,_,_,h=>by simpa[xu]using h
 |u::us,d,c,hb,h=>by
  have:=Cu (us:=us) (m:=m) f (fun t g=>hb t (Zb _ g)) (j7 (m:=Xg m u.2) (f.mul (hb u (Zc ..))) h);simp only[xu,Zi,ZG,Z4];rw[show c+(us.length*(a*b)+a*b)=c+a*b+us.length*(a*b)by omega];exact this
theorem xt {z:Rat}{m:P'}:∀(b a:Z'),(xu z m b a).length<=a.length+b.length
 |[],_=>by simp[xu]
 |u::b,a=>by
  have c:=xt (z:=z) (m:=m) b (Ty (z*u.1) (Xg m u.2) a);have d:=nv (z*u.1) (Xg m u.2) a;simp only[xu,Zi];omega
theorem y9 {c d:Z'}(h:c.Perm d)(e:P'->Rat):X2 c e=X2 d e:=by
 induction h with
 |nil=>rfl
 |cons t _ f=>simp only[X2,f]
 |swap t u l=>simp only[X2];grind
 |trans _ _ a b=>rw[a,b]
theorem OH (b:P'->Rat):∀a:Z',X2 (a.filter fun t=>t.1 !=0) b=X2 a b
 |[]=>rfl
 |t::a=>by
  by_cases h:t.1=0
  ·rw[List.filter_cons_of_neg (by simp[h])];simp only[X2,h,OH b a];grind
  ·rw[List.filter_cons_of_pos (by simp[h])];simp only[X2,OH b a]
theorem Ay {n o:Type}{R:n->o->Prop}{m d:List n}(s:d.Perm m):∀{b:List o},XB R m b->∃a,XB R d a/\a.Perm b:=by
 induction s with
 |nil=>intro b h;exact⟨b,h,.refl _⟩
 |cons x _ t=>
  intro b h;cases h with |cons i c=> ?_
  obtain⟨a,f,g⟩:=t c;exact⟨_,.cons i f,g.cons _⟩
 |swap x y l=>
  intro b h;cases h with |cons i c=> ?_
  cases c with |cons c r=> ?_
  exact⟨_,.cons c (.cons i r),.swap ..⟩
 |trans _ _ j k=>
  intro b h;obtain⟨a,f,g⟩:=k h;obtain⟨e,p,q⟩:=j f;exact⟨e,p,q.trans g⟩
theorem tB {e f:Type}{R:e->f->Prop}{p:e->Bool}{q:f->Bool}(b:∀x y,R x y->p x=q y){c:List e}{d:List f}(h:XB R c d):XB R (c.filter p) (d.filter q):=by
 induction h with
 |nil=>exact .nil
 |@cons x y c d g j i=>
  have:=b _ _ g;cases a:p x with
  |true=>rw[List.filter_cons_of_pos a,List.filter_cons_of_pos (this▸a)];exact .cons g i
  |false=>rw[List.filter_cons_of_neg (by simp[a]),List.filter_cons_of_neg (by simp[<-this,a])];exact i
theorem HI {c:N'}{t:Qm}(h:W0 c t):nz c=(t.1 !=0):=by
 obtain⟨n,a,d,b,rfl,⟨o,k,m,l,f,⟨q,e1,i⟩,-⟩,-⟩:=h;simp only[ZH,PL.bool.injEq,and_true]at f;obtain⟨rfl,rfl,rfl,rfl⟩:=f;simp only[ZH,PL.bool.injEq,and_true]at e1;obtain⟨-,rfl⟩:=e1;have g:t.1=0↔t.1.num.natAbs=0:=by rw[Int.natAbs_eq_zero];exact Rat.num_eq_zero.symm
 rcases i with e|⟨e,rfl⟩
 ·subst e;by_cases h0:t.1=0
  ·simp[h0,Uy,Vn,nz]
  ·have :t.1.num.natAbs≠0:=fun e=>h0 (g.2 e)
   rw[To this];simp[Uy,nz,h0]
 ·have j:Xd t.1.num.natAbs=[]:=by simpa[Uy]using e
  have :t.1.num.natAbs=0:=VE.1 (by rw[j];rfl);simp[g.2 this,nz]
theorem C5 {c:Y'}{t:Qm}(h:JY c t):∃e,dZ c=some e/\W0 e t/\Uk e=t.2:=by
 obtain⟨n,y,d,u,rfl,b,a⟩:=h;have j:=nE (mo t.2++[PL.bool n,y,.bool d,u]);have k:aH t.2 (.bool n) y (.bool d) u=(mo t.2++[PL.bool n,y,.bool d,u]).map DL.p:=by simp[aH,Xw,mo]
 have q:(mo t.2++[PL.bool n,y,.bool d,u]).take 8=mo t.2:=by rw[List.take_append_of_le_length (by rw[XF];have:=a.1;omega),Zd (by rw[XF];have:=a.1;omega)]
 have i:(mo t.2++[PL.bool n,y,.bool d,u]).drop 8=[.bool n,y,.bool d,u]:=by
  rw[YT (by rw[XF];have:=a.1;omega),Zo (by rw[XF];have:=a.1;omega)];rfl
 have l:isTerm (PL.bool n::y::.bool d::u::mo t.2)=true:=by unfold isTerm;rw[NB a];rfl
 refine⟨.bool n::y::.bool d::u::mo t.2,?_,⟨n,y,d,u,rfl,b,a⟩,zo a⟩;have o:y=.Xq\/∃g,y=.Xn g:=by
  obtain⟨w,r,v,s,f,⟨m,e,b⟩,-⟩:=b;simp only[ZH,and_true]at f e;obtain⟨-,rfl,-,-⟩:=f;obtain⟨-,rfl⟩:=e;rcases b with e|⟨-,e⟩
  ·exact .inr ⟨_,e⟩
  ·exact .inl e
 rcases o with rfl|⟨g,rfl⟩<;>simp only[dZ,k,j,i,q,l,cond_true]
theorem C6 {ch:K'}{b:Z'}(h:Oj ch b):∃a,Xv dZ ch=some a/\XB (fun c t=>W0 c t/\Uk c=t.2) a b:=by
 induction h with
 |nil=>exact⟨[],rfl,.nil⟩
 |cons g _ l=>
  obtain⟨a,d,f⟩:=l;obtain⟨e,i,j,k⟩:=C5 g;exact⟨e::a,by simp only[Xv,i,d],.cons ⟨j,k⟩ f⟩
theorem Dj {g:I'}{f:Z'}(h:XB (fun c t=>W0 c t/\Uk c=t.2) g f)(j:(f.map (·.2)).Nodup):Ta g=true:=by
 induction h with
 |nil=>rfl
 |@cons c t g f m k q=>
  simp only[Zt,List.nodup_cons]at j;simp only[Ta,Zs,ZI,YB];refine⟨fun d n=> ?_,q j.2⟩;cases o:jJ Nat.beq (Uk c) (Uk d)with
  |false=>rfl
  |true=>
   exfalso;have e:Uk c=Uk d:=gj (fun x y h=>Zl h) _ _ o;obtain⟨i,l⟩:=ZB.1 n;have b:i<f.length:=by rw[<-k.length];exact(Zf.1 l).1
   obtain⟨r,a,-,p⟩:=k.get i _ (Zg b);rw[l]at a;cases a;refine j.1 (ZM.2 ⟨f[i],YS b,?_⟩);rw[<-p,<-e,m.2]
theorem nO {ch:K'}{k:Z'}(h:Oj ch k)(R:(k.map (·.2)).Nodup)(Y:k.length<60000):
  ∃J l,(∀G,R4 [.one (.mp 0)] (Tc ch::G)=some (.one (.p (.Xn J)),(Tc ch::G).map VN))/\X5 J l/\Om l/\l.Perm (k.filter fun t=>t.1 !=0):=by
 obtain⟨j,F,z⟩:=C6 h;have m:=Dj z R;have D:=aG F;have P:j.length=k.length:=z.length;have I:ch.length=k.length:=h.length;have N:=tB (p:=nz) (q:=fun t=>t.1 !=0) (fun c t A=>HI A.1) z;obtain⟨l,v,w⟩:=Ay (Uz (j.filter nz)) N;have B:Nat.blt ch.length 60000=true:=N6 (by omega);have n:=mc m (List.filter_sublist (p:=nz));have g:TK (j.filter nz):=fun c A=>D c (Yo.1 A).1
 have o:=RW g;have a:=iT n (Uz _);have b:=eP g;refine⟨TH (j.filter nz),l,fun G=> ?_,v.imp fun _ _ h=>h.1,?_,w⟩
 ·have h0:(Tc ch::G)[0]? =some (Tc ch):=rfl;simp only[R4,h0,YA,B,F,m,Bool.and_self,cond_true];rfl
 ·refine⟨fun t S=>by simpa using(Yo.1 (w.mem_iff.1 S)).2,?_⟩;have f:(TH (j.filter nz)).Pairwise fun x y=>Uk x≠Uk y:=by
   have H:=QG a;have M:=S4 a;rw[List.nodup_iff_pairwise_ne]at H;exact H.imp_of_mem fun r s C e=>C (M _ r _ s e)
  have d:(TH (j.filter nz)).Pairwise fun x y=>WJ (Uk x) (Uk y)=.ofNat 1:=by
   refine(o.and f).imp_of_mem fun{x y} r s ⟨K,L⟩=> ?_
   rcases VX (Uk x) (Uk y)with h|h|h
   ·exact h
   ·exact absurd (show RG y x<0 by unfold RG;rw[P6];exact h) K
   ·exfalso;obtain⟨_,_,_,_,-,Z,-⟩:=Wp (b x r);obtain⟨_,_,_,_,-,l2,-⟩:=Wp (b y s);exact L (S9 (by omega) h)
  clear o f w a b;generalize TH (j.filter nz)=X at v d;induction v with
  |nil=>exact .nil
  |@cons x t X l r E U=>
   obtain⟨V,W⟩:=Zu.1 d;refine Zu.2 ⟨fun u T=> ?_,U W⟩;obtain⟨i,O⟩:=ZB.1 T;obtain⟨y,s,-,Q⟩:=E.get i u O;have:=V y (Zk s)
   rwa[r.2,Q]at this
theorem Fr.sq {D c C k:Nat}{x:Rat}(h:Fr D c x)(g:k<200000000000)(f:0<D)(a:D<=C)(b:c<=C)(d:C<4294967296^k):Sq x:=by
 obtain⟨z,e,i⟩:=h;exact Sq.le g f e a (Zx i b) d
structure F3 (D D' a b C k:Nat):Prop where
 k7:k<200000000000
 d1:0<D
 d2:0<D'
 dd:D*D'<=C
 aa:a<=C
 bb:b<=C
 C:C<4294967296^k
theorem zm {B:Xs}(I:Std B){D l a b C k:Nat}(f:F3 D l a b C k){c:N'}{z:Rat}(hc:Ri c z){m:P'}(L:XD m)(Q:Fr D a z):∀{G:I'} {j:Z'},X5 G j->VQ l b j->(∀u∈j,XD (Xg m u.2))->
  ∀{ch:K'} {g:Z'} {d:Nat},Oj ch g->VQ (D*l) d g->d+j.length*(a*b)<=C->∃n,Oj n (xu z m j g)/\XS B fun E _=>nw E c m G ch n:=by
 intro G j h;have hD:D<=C:=Zx (YU _ f.d2) f.dd;have J:l<=C:=Zx (Nat.le_mul_of_pos_left _ f.d1) f.dd;have o:0<D*l:=Yi f.d1 f.d2;induction h with
 |nil=>intro _ _ ch g d M _ _;exact⟨ch,M,XS.of fun _ _=>.nil⟩
 |@cons q u G j hu h ih=>
  intro N P ch g d M O s;obtain⟨x,y,w,v,rfl,p1,R⟩:=hu;have p:=N u (Zc ..);have i:=P u (Zc ..);simp only[Zi,ZG,Z4]at s;have V:=eJ I L R i;obtain⟨e,W,r⟩:=bu I hc p1 (Q.sq f.k7 f.d1 hD f.aa f.C) (p.sq f.k7 f.d2 J f.bb f.C);have F:=Q.mul p;obtain⟨S,X,Y⟩:=sY I M r i (F.sq f.k7 o f.dd (by omega) f.C) fun t A=>(O t A).sq f.k7 o f.dd (by omega) f.C
  obtain⟨H,Z,h4⟩:=ih (fun t A=>N t (Zb _ A)) (fun t A=>P t (Zb _ A)) X (j7 (m:=Xg m u.2) F O) (by omega);obtain⟨r1,r2,r3,r4,rfl,-,-⟩:=r;exact⟨H,Z,(h4.and (Y.and (V.Xk.and W.Xk))).mono fun E K ⟨e1,e2,T,U⟩=>.cons R i T U e2 e1⟩
theorem uU {B:Xs}(N:Std B){D n a b C k:Nat}(O:F3 D n a b C k){G:I'}{j:Z'}(P:X5 G j)(s:VQ n b j):∀{l:I'} {c:Z'},X5 l c->VQ D a c->(∀t∈c,∀u∈j,XD (Xg t.2 u.2))->
  ∀{ch:K'} {acc:Z'} {d:Nat},Oj ch acc->VQ (D*n) d acc->d+c.length*(j.length*(a*b))<=C->
  ∃e,Oj e (kJ j c acc)/\XS B fun E _=>kn E G l ch e:=by
 intro l c h;induction h with
 |nil=>intro _ _ ch acc d q _ _;exact⟨ch,q,XS.of fun _ _=>.nil⟩
 |@cons p t l c g h Q=>
  intro r A ch acc d q z f;obtain⟨x,y,w,v,rfl,R,F⟩:=g;have i:=r t (Zc ..);simp only[Zi,ZG,Z4]at f⊢;obtain⟨H,I,J⟩:=zm N O R F i P s (A t (Zc ..)) q z (by omega);obtain⟨o,L,M⟩:=Q (fun t g=>r t (Zb _ g)) (fun t g=>A t (Zb _ g)) I (Cu (m:=t.2) i s z) (by omega);exact⟨o,L,(M.and J).mono fun E K ⟨e1,e2⟩=>.cons F e2 e1⟩
theorem rq {us:Z'}:∀(b a:Z'),(kJ us b a).length<=a.length+b.length*us.length
 |[],_=>by simp[kJ]
 |t::b,a=>by
  have c:=rq (us:=us) b (xu t.1 t.2 us a);have d:=xt (z:=t.1) (m:=t.2) us a;simp only[kJ,Zi,ZG,Z4];omega
theorem yV {B:Xs}(q:vM B){D w a b C k:Nat}(U:F3 D w a b C k){y z:PL}{f g:Z'}(V:PQ y f)(W:PQ z g)(S:VQ D a f)(T:VQ w b g)(nf:∀t∈f,t.1≠0)(dg:Om g)(X:∀t∈f,∀u∈g,XD (Xg t.2 u.2))(x:f.length*(g.length*(a*b))<=C)(hl:f.length*g.length<60000)(l1:f.length<1000)(l2:g.length<1000):
  ∃o,Xu B 78 [.one y,.one z] (.X9 [.one (.Xn o),.one (LA 0)])/\X5 o (WY [] f g):=by
 obtain⟨A,I,c⟩:=V;obtain⟨qs,sq,i⟩:=W;have J:=c.length;have L:=i.length;have F:=c.tS.q8;have H:=i.tS.q8;obtain⟨ch,Q,R⟩:=uU q.toStd U i T c S X (ch:=[]) (acc:=[]) (d:=0) .nil (fun _ h=>by cases h) (by omega);have j:=rq (us:=g) f [];have s:((kJ g f []).map (·.2)).Nodup:=iO (by simp);obtain⟨o,ws,M,N,O,P⟩:=nO Q s (by simp at j;omega);have v:XS B fun E _=>∀G,E.heap 132 [.one (.mp 0)] (Tc ch::G)=some (.one (.p (.Xn o)),(Tc ch::G).map VN):=by
  exact⟨0,fun K n _ _ G=>(B.F5 (K:=0) (n:=0) (Zw K) (Zw n)).heap _ _ _ _ (q.sorted _ _ _ (M G))⟩
 refine⟨o,Xu.of (q.toStd.Wa _ _ rfl) ((R.and (v.and (q.toStd.Xk.and (XS.ge (A.length+qs.length+1))))).mono fun E K ⟨e1,e2,l,hK⟩=> ?_),?_⟩
 ·obtain⟨T',G',Y,Z⟩:=zk (K:=K) l I sq (by omega) (by omega) (by omega) A [] ch e1 0 K [] (by simp) (by simp) (by omega);have r:T8 8 true 0 []=some ⟨.one (.mp 0),[Tc []],[],[]⟩:=rfl;simp only[Xo,Vx,Xr,r,reduceIte,Nat.reduceEqDiff,Nat.reduceLeDiff,Nat.reduceAdd,x78,I.len,Y,Z,e2,l,X4]
 ·have e:ws=WY [] f g:=by
   refine Om.ext O (gl F H (fun _ h=>by cases h) nf dg .nil) fun m=> ?_
   rw[Wo,Wo,y9 P,OH,rp,bB (WW m) F H (fun _ h=>by cases h)]
  rw[<-e];exact N
end Go.Proofs.YtidginchkjhobaaGreat
