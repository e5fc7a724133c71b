/- The terms of a map, sorted: the contract. -/
import Derived.Test.YtidginchkjhobaaGreatGrB
set_option maxHeartbeats 16000000
set_option maxRecDepth 100000
namespace Go.Proofs.YtidginchkjhobaaGreat
open Go.Ev Go.Num
theorem oe {b c:Type}{f:b->Option c}:∀{l:List b} {r:List c},Xt f l=some r->r.length=l.length
 |[],r,h=>by cases h;rfl
 |x::l,r,h=>by
  simp only[Xt]at h;split at h
  ·cases h
  ·split at h
   ·cases h
   ·rename_i a;cases h;simp[oe a]
theorem cR {b c:Type}{f:b->Option c}:∀{l m:List b} {r q:List c},Xt f l=some r->Xt f m=some q->Xt f (l++m)=some (r++q)
 |[],m,r,q,h,k=>by cases h;simpa using k
 |x::l,m,r,q,h,k=>by
  simp only[Xt]at h;split at h
  ·cases h
  ·rename_i y d;split at h
   ·cases h
   ·rename_i e a;cases h;simp only[ZI,Xt,d,cR a k]
theorem vV {n o:Type}{f:n->Option o}{l m:List n}(w:l.Perm m):∀{r:List o},Xt f l=some r->∃q,Xt f m=some q/\r.Perm q:=by
 induction w with
 |nil=>intro r h;exact⟨r,h,.refl _⟩
 |cons x _ A=>
  intro r h;simp only[Xt]at h;split at h
  ·cases h
  ·rename_i y z;split at h
   ·cases h
   ·rename_i D i;cases h;obtain⟨q,d,e⟩:=A i;exact⟨y::q,by simp only[Xt,z,d],e.cons y⟩
 |swap x y l=>
  intro r h;simp only[Xt]at h;split at h
  ·cases h
  ·rename_i a u;split at h
   ·cases h
   ·rename_i C c;cases h;split at c
    ·cases c
    ·rename_i b v;split at c
     ·cases c
     ·rename_i p g;cases c;exact⟨b::a::p,by simp only[Xt,u,v,g],.swap ..⟩
 |trans _ _ j k=>
  intro r h;obtain⟨q,d,e⟩:=j h;obtain⟨B,s,t⟩:=k d;exact⟨B,s,e.trans t⟩
theorem wy {c:List DL}{t:List PL}(h:cj c=some t):isTerm t=true:=by
 obtain⟨n,y,z,u,m,b,-,rfl,a,-,-⟩:=OL h;unfold isTerm;rw[OD a];rfl
theorem Nr:∀{l:List (List DL)} {a:List (List PL)},Xt cj l=some a->Tk a
 |[],a,h=>by cases h;exact fun _ h=>by cases h
 |c::l,a,h=>by
  simp only[Xt]at h;split at h
  ·cases h
  ·rename_i y e;split at h
   ·cases h
   ·rename_i f d;cases h;intro x b;rcases Zj.1 b with rfl|b
    ·exact wy e
    ·exact Nr d x b
theorem nX {a:List (List PL)}(b:hG a)(g:a.Nodup):UQ a=true:=by
 induction a with
 |nil=>rfl
 |cons c a m=>
  obtain⟨e,i⟩:=List.nodup_cons.1 g;simp only[UQ,Zs,ZW,Yx];refine⟨fun d f=> ?_,m (fun x k y l=>b x (Zc _ k) y (Zc _ l)) i⟩;cases j:gz Nat.beq (VT c) (VT d)with
  |false=>rfl
  |true=>
   exfalso;have :VT c=VT d:=ef (fun x y h=>Zl h) _ _ j;rw[b c (Ze ..) d (Zc _ f) this]at e;exact e f
theorem RW:∀{a:List (List PL)},UQ a=true->a.Nodup
 |[],_=>List.nodup_nil
 |c::a,h=>by
  simp only[UQ,Zs,ZW,Yx]at h;refine List.nodup_cons.2 ⟨fun b=> ?_,RW h.2⟩;have:=h.1 c b;rw[bZ]at this;cases this
theorem jq {b c:List (List PL)}(h:UQ b=true)(a:c.Sublist b):UQ c=true:=
 nX (fun x d y e=>Sn h x (a.subset d) y (a.subset e)) (a.nodup (RW h))
theorem fG {b c:List (List PL)}(h:UQ b=true)(a:c.Perm b):UQ c=true:=
 nX (fun x d y e=>Sn h x (a.mem_iff.1 d) y (a.mem_iff.1 e)) (a.nodup_iff.2 (RW h))
theorem uO {P:Program}(b2:P.follows .mixedOrders=true){B:Xs}(hB:D4 B)(hE:∀K n,Wq P (B.E K n))(hf:Ap P 132 vk)(args:List DV)(H:List Xz)(d:DV)(H':List Xz)(h:Rm args H=some (d,H')):
  CH P 132 args H d H'/\mz P 132:=by
 unfold Rm at h;split at h
 ·rename_i i;split at h
  ·rename_i b hb;obtain⟨M,h⟩:=X3 h;simp only[Zs]at M;obtain⟨⟨⟨hm,c6⟩,a1⟩,hl⟩:=M;have a1:=Zl a1;have hl:b.ch.length<60000:=by
    have:=hl;rw[aL]at this;simpa using this
   split at h
   ·rename_i f D;obtain⟨c1,h⟩:=Xv h;simp only[Zo]at h;obtain⟨rfl,rfl⟩:=h;have a2:=Nr D;have d0:=oe D;have hF:=(((iZ hB.toStd D).and hB.toStd.Xj).and (uR hB (L:=(f.filter nz).length) (Z6 (List.length_filter_le ..) (by omega))));obtain⟨N,hN⟩:=hF;obtain⟨⟨hs,I⟩,b5⟩:=hN N N (Zh _) (Zh _);generalize b6:B.E N N=E at hs I b5;have J:Wq P E:=b6▸hE N N;have key:CH P 132 [.one (.mp 0)] [Vq b] (inj (.one (.Xp (Tg (f.filter nz))))) ([Vq b].map Vq)/\mz P 132:=by
     have Y:(Vq b).ch=b.ch:=rfl;have Z:(Vq b).mp=true:=hm;have a7:(Vq b).fz=true:=rfl;have F:Nat.beq (Vq b).ty 1=true:=c6;have U:(Vq b).sz=8:=a1;have a5:Vq (Vq b)=Vq b:=rfl;generalize c8:Vq b=B0 at Y Z a7 F U a5;let Inv:List (List DL)->St->Prop:=fun l s=>∃T v G dn tl g,s=⟨T,B0::⟨false,v,12,pc (g.filter nz),false,75⟩::El::G⟩/\Xh T 3=some (.one (.own 1 v 0 (g.filter nz).length))/\Xh T 10=some (.one (.ptr 2 0 0 0))/\Xt cj dn=some g/\Xt cj l=some tl/\(g++tl).Perm f
     have a0:∀l s,Inv l s->∀p∈Qk l,∃s',TQ E N vk 2 s p.1=some s'/\Inv p.2 s':=by
      rintro l s ⟨T,v,G,dn,tl,g,rfl,h3,X,a4,C,a⟩ p hp;have c2:=Na l p hp;obtain⟨q,S,b4⟩:=vV c2.symm C;obtain⟨c,l'⟩:=p;simp only[Xt]at S;split at S
      ·cases S
      ·rename_i t ht;split at S
       ·cases S
       ·rename_i a3 W;cases S;obtain⟨n,y,z,u,m,es,rfl,rfl,b3,c9,hz⟩:=OL ht;have b1:(PL.bool n::y::z::u::mo m)∈f:=a.mem_iff.1 (Yc.2 (.inr (b4.mem_iff.2 (Ze ..))));obtain⟨s0,e1,e2⟩:=hs _ b1 n y z u (mo m) rfl;have b0:(g.filter nz).length<100000:=by
         have h1:(g++tl).length=f.length:=a.length_eq;have h2:(g.filter nz).length<=g.length:=List.length_filter_le ..;simp at h1;omega
        have j:(g++[PL.bool n::y::z::u::mo m]++a3).Perm f:=by
         refine List.Perm.trans ?_ a;rw[Zq,Z5];exact(b4.symm).append_left g
        have Q:Xt cj (dn++[Xu m++[.p (.bool n),.p y,.p z,.p u]])=some (g++[PL.bool n::y::z::u::mo m]):=cR a4 (by simp only[Xt,ht]);cases r:nz (PL.bool n::y::z::u::mo m)with
        |true=>
         rw[r]at e2;obtain⟨T',G',g1,g2,g3⟩:=xY (K:=N) I b3.1 e1 e2 (B0:=B0) (G:=G) b0 h3 X;refine⟨_,g1,T',v+1,G',_,a3,_,?_,?_,g3,Q,W,j⟩
         ·rw[List.filter_append];simp[r]
         ·rw[g2,List.filter_append];simp[r]
        |false=>
         rw[r]at e2;obtain⟨T',G',g1,g2,g3⟩:=A4 (K:=N) I b3.1 e1 e2 (B0:=B0) (G:=G) h3 X;refine⟨_,g1,T',v,G',_,a3,_,?_,?_,g3,Q,W,j⟩
         ·rw[List.filter_append];simp[r]
         ·rw[g2,List.filter_append];simp[r]
     have b8:[B0].map Vq=[B0]:=by simp[a5]
     have b9:128*b.ch.length<=lim:=by unfold lim;omega
     have a9:b.ch.length<=9223372036854775807:=by omega
     have S:Tb (Xn [B0]) [.one (.mp 0)]=some ⟨.one (.p (.int .i64 (.ofNat b.ch.length))),[],[],[0]⟩:=by
      have c4:=Zl F;have hh:Xn [B0] 0=some B0:=rfl;simp only[Tb,hh,Z,c4,Y];rfl
     have h0:XG E N 0 vk.yy ⟨Ur [.one (.mp 0)] 0,[B0].map Vq⟩=some (.normal,⟨[(2,.one (.p .XC)),(0,.one (.mp 0))],[B0]⟩):=by
      rw[b8];simp only[Xm,vk]
     have h1:XG E N 0 vk.yx ⟨[(2,.one (.p .XC)),(0,.one (.mp 0))],[B0]⟩=some (.normal,⟨[(3,.one (.own 1 0 0 0)),(8,.one (.own 1 0 0 0)),(7,.one (.p (.int .i64 (.ofNat b.ch.length)))),(6,.one (.mp 0)),(2,.one (.p .XC)),(0,.one (.mp 0))],[B0,⟨false,0,12,[],false,75⟩]⟩):=by
      simp only[Xm,Xq,vk,iM,reduceIte,Nat.reduceEqDiff,Nat.reduceAdd,Zt,S,b9,a9]
     have b7:Inv b.ch ⟨(10,.one (.ptr 2 0 0 0))::(9,.one (.mp 0))::[(3,.one (.own 1 0 0 0)),(8,.one (.own 1 0 0 0)),(7,.one (.p (.int .i64 (.ofNat b.ch.length)))),(6,.one (.mp 0)),(2,.one (.p .XC)),(0,.one (.mp 0))],[B0,⟨false,0,12,[],false,75⟩]++[⟨true,0,0,[],true,2⟩]⟩:=
      ⟨_,0,[],[],f,[],rfl,rfl,rfl,rfl,D,.refl _⟩
     obtain⟨ss,a6,w⟩:=gr Inv a0 b.ch.length b.ch _ rfl b7;refine vi E J (uk J b2) N hf [.one (.mp 0)] [B0] (.one (.Xp (Tg (f.filter nz)))) (ss:=ss) (id:=0) (b:=B0) (by simp[vk]) h0 h1 rfl rfl Z a7 F U ?_ fun s c3=> ?_
     ·rw[Y];exact a6
     ·obtain⟨T,v,G,dn,tl,g,rfl,h3,X,a4,C,a⟩:=w s c3;cases C;rw[ZS]at a;have k:(g.filter nz).Perm (f.filter nz):=a.filter nz;have R:UQ (f.filter nz)=true:=jq c1 List.filter_sublist;have V:Tk (f.filter nz):=fun c M=>a2 c ((YD.1 M).1)
      have hu:=lH V (Sn R) k;generalize g.filter nz=o at k h3 hu;have A:=b5 (B0::⟨false,v,12,pc o,false,75⟩::El::G) 1 v 75 o k.length_eq rfl (fun c M=>V c (k.mem_iff.1 M)) (fG R k);rw[hu]at A;have c0:o.length=(Tg (f.filter nz)).length:=by rw[k.length_eq,(Ud _).length_eq]
      have a8:=fun h=>VK 5 h (Tg (f.filter nz))
      have c5:=VA (Tg (f.filter nz)) (Zh _);rw[c0]at h3 A;unfold qI;simp only[Xm,Vm,Xq,Vg,vk,reduceIte,Nat.reduceEqDiff,h3,I,X5,A,Wl,Zh,c5,a8]
    refine⟨?_,key.2⟩;refine Cn key.1 hb hm ?_;have w:∀(l:List (List DL)) (f:List (List PL)),Xt cj l=some f->∀c∈l,∀d∈c,∃l,d=DL.p l:=by
     intro l;induction l with
     |nil=>intro f _ c M;cases M
     |cons c l ih=>
      intro f h x hx d O;simp only[Xt]at h;split at h
      ·cases h
      ·rename_i y hy;split at h
       ·cases h
       ·rename_i ys c7;rcases Zj.1 hx with rfl|hx
        ·obtain⟨n,y,z,u,m,es,rfl,-,-,-,-⟩:=OL hy;rcases Yc.1 O with O|O
         ·simp only[Xu,ZQ]at O;obtain⟨e,-,rfl⟩:=O;exact⟨_,rfl⟩
         ·simp only[Zj,Z0,or_false]at O;rcases O with rfl|rfl|rfl|rfl<;>exact⟨_,rfl⟩
        ·exact ih ys c7 x hx d O
    exact w _ _ D
   ·cases h
  ·cases h
 ·cases h
def Ns (m:List Nat)(n y d u:PL):List DL:=Xu m++[.p n,.p y,.p d,.p u]
def Fb (c:List DL)(t:Qm):Prop:=∃n y d u,c=Ns t.2 (.bool n) y (.bool d) u/\RP [.bool n,y,.bool d,u] t.1/\XE t.2
abbrev Pu (ch:List (List DL))(ts:List Qm):Prop:=XF Fb ch ts
def U6 (z:Rat)(m:List Nat):List Qm->List Qm
 |[]=>[(z,m)]
 |t::ts=>if m=t.2 then(t.1+z,m)::ts else t::U6 z m ts
theorem cm {m:List Nat}(a:m.length=8)(n y d u:PL):(Ns m n y d u).take 8=Xu m:=by
 rw[Ns,Y6 (by rw[Xc];omega),Zd (by rw[Xc];omega)]
theorem wz {m:List Nat}(a:m.length=8)(n y d u:PL):(Ns m n y d u).drop 8=[.p n,.p y,.p d,.p u]:=by
 rw[Ns,YT (by rw[Xc];omega),Zm (by rw[Xc];omega)];rfl
theorem wo {m:List Nat}(l:m.length=8){ch:List (List DL)}{b:List Qm}(h:Pu ch b)(f:∀t∈b,m≠t.2)(z:Rat):∀k,TU .i64 8 (Xu m) ch k=some none/\U6 z m b=b++[(z,m)]:=by
 induction h with
 |nil=>intro k;exact⟨rfl,rfl⟩
 |@cons c t ch b j h p=>
  intro k;obtain⟨n,y,d,u,rfl,-,a⟩:=j;have e:=f t (Ze ..);obtain⟨g,i⟩:=p (fun t o=>f t (Zc _ o)) (k+1);refine⟨?_,?_⟩
  ·simp only[TU,cm a.1,V0 m t.2 (by rw[l,a.1]),decide_eq_false e,g]
  ·simp only[U6,if_neg e,i,ZI]
theorem wm {m:List Nat}(q:m.length=8){ch:List (List DL)}{f:List Qm}(h:Pu ch f)(p:∃t∈f,m=t.2)(z:Rat):∃i c t,ch[i]? =some c/\f[i]? =some t/\t.2=m/\Fb c t/\(∀k,TU .i64 8 (Xu m) ch k=some (some (k+i,c)))/\U6 z m f=f.set i (t.1+z,m):=by
 induction h with
 |nil=>obtain⟨t,B,-⟩:=p;cases B
 |@cons c t ch f o h C=>
  have g:=o;obtain⟨n,y,d,u,rfl,-,a⟩:=g;by_cases e:m=t.2
  ·refine⟨0,_,t,rfl,rfl,e.symm,o,fun k=> ?_,?_⟩
   ·simp only[TU,cm a.1,V0 m t.2 (by rw[q,a.1]),decide_eq_true e];rfl
   ·simp only[U6,if_pos e,List.set_cons_zero]
  ·obtain⟨i,c,j,r,s,v,w,x,A⟩:=C (by
    obtain⟨j,b,l⟩:=p;rcases Zj.1 b with rfl|b
    ·exact absurd l e
    ·exact⟨j,b,l⟩)
   refine⟨i+1,c,j,by simpa using r,by simpa using s,v,w,fun k=> ?_,?_⟩
   ·simp only[TU,cm a.1,V0 m t.2 (by rw[q,a.1]),decide_eq_false e,x (k+1)];rw[show k+1+i=k+(i+1)by omega]
   ·simp only[U6,if_neg e,A,Y3]
abbrev US (ch:List (List DL)):Xz:=⟨false,0,8,ch,true,1⟩
theorem oq {m:List Nat}(c:m.length=8){ch:List (List DL)}(a:TU .i64 8 (Xu m) ch 0=some none)(X:List Xz):UO 8 .i64 true [.bool false,.XC,.bool false,.XC] true (Xn (US ch::X)) [.one (.mp 0),.agg (Xu m)]=
  some ⟨.XZ [.agg [.p (.bool false),.p .XC,.p (.bool false),.p .XC],.one (.p (.bool false))],[],[],[0]⟩:=by
 have b:Wh .i64 (Xu m) (Xu m)=some true:=by rw[V0 m m rfl];simp
 have h0:Xn (US ch::X) 0=some (US ch):=rfl;simp only[UO,h0,Nn,a,b,Xc,c];rfl
theorem oo {m:List Nat}(a:m.length=8){ch:List (List DL)}{i:Nat}{n y d u:PL}(b:TU .i64 8 (Xu m) ch 0=some (some (i,Ns m n y d u)))(X:List Xz):UO 8 .i64 true [.bool false,.XC,.bool false,.XC] true (Xn (US ch::X)) [.one (.mp 0),.agg (Xu m)]=
  some ⟨.XZ [.agg [.p n,.p y,.p d,.p u],.one (.p (.bool true))],[],[],[0]⟩:=by
 have c:Wh .i64 (Xu m) (Xu m)=some true:=by rw[V0 m m rfl];simp
 have h0:Xn (US ch::X) 0=some (US ch):=rfl;simp only[UO,h0,Nn,b,c,Xc,a,rL,wz a];rfl
theorem mJ {m:List Nat}(c:m.length=8){ch:List (List DL)}(a:TU .i64 8 (Xu m) ch 0=some none)(n y d u:PL)(X:List Xz):Vf 8 .i64 true 4 (Xn (US ch::X)) [.one (.mp 0),.agg (Xu m),.agg [.p n,.p y,.p d,.p u]]=
  some ⟨.XZ [],[],[(0,US (ch++[Ns m n y d u]))],[0]⟩:=by
 have b:Wh .i64 (Xu m) (Xu m)=some true:=by rw[V0 m m rfl];simp
 have h0:Xn (US ch::X) 0=some (US ch):=rfl;simp only[Vf,h0,eB,a,b,Xc,c,DV.cells];rfl
theorem mI {m:List Nat}(e:m.length=8){ch:List (List DL)}{i:Nat}{c:List DL}(a:TU .i64 8 (Xu m) ch 0=some (some (i,c)))(n y d u:PL)(X:List Xz):Vf 8 .i64 true 4 (Xn (US ch::X)) [.one (.mp 0),.agg (Xu m),.agg [.p n,.p y,.p d,.p u]]=
  some ⟨.XZ [],[],[(0,US (ch.set i (Ns m n y d u)))],[0]⟩:=by
 have b:Wh .i64 (Xu m) (Xu m)=some true:=by rw[V0 m m rfl];simp
 have h0:Xn (US ch::X) 0=some (US ch):=rfl;simp only[Vf,h0,eB,a,b,Xc,e,DV.cells];rfl
theorem pk {E:Xa}{K:Nat}(e:E.mode=md){n y d u:PL}{m:List Nat}(a:m.length=8){ch:List (List DL)}(b:TU .i64 8 (Xu m) ch 0=some none)(G:List Xz):
  ∃c,Uh E K x131 [.one (.mp 0),.agg [.p n,.p y,.p d,.p u],.agg (Xu m)] (US ch::G)=some (.XZ [],US (ch++[Ns m n y d u])::(G++c)):=by
 have f:(Xu m).take 8=Xu m:=Zd (by rw[Xc];omega);apply Exists.intro;simp only[Xm,Vm,uE,Xq,Vg,reduceIte,Nat.reduceEqDiff,Nat.reduceLeDiff,Nat.reduceAdd,x131,a,Xc,f,oq a b,mJ a b,Zq];rfl
theorem pj {E:Xa}{K:Nat}(b:E.mode=md){n y d u g l c j h o e k:PL}{m:List Nat}(a:m.length=8){ch:List (List DL)}{i:Nat}(f:TU .i64 8 (Xu m) ch 0=some (some (i,Ns m g l c j)))
  (r:E.pure 157 [.agg [g,l,c,j],.agg [n,y,d,u]]=some (.agg [h,o,e,k])) (G:List Xz):
  ∃q,Uh E K x131 [.one (.mp 0),.agg [.p n,.p y,.p d,.p u],.agg (Xu m)] (US ch::G)=some (.XZ [],US (ch.set i (Ns m h o e k))::(G++q)):=by
 have s:(Xu m).take 8=Xu m:=Zd (by rw[Xc];omega);apply Exists.intro;simp only[Xm,Vm,uE,Xq,Vg,reduceIte,Nat.reduceEqDiff,Nat.reduceLeDiff,Nat.reduceAdd,x131,b,X5,a,Xc,s,oo a f,mI a f,r,Zq];rfl
theorem Pu.set {ch:List (List DL)}{a:List Qm}(h:Pu ch a){c:List DL}{t:Qm}(e:Fb c t):∀i,Pu (ch.set i c) (a.set i t):=by
 induction h with
 |nil=>intro i;exact .nil
 |cons b d f=>
  intro i;cases i with
  |zero=>exact .cons e d
  |succ i=>exact .cons b (f i)
theorem Pu.snoc {ch:List (List DL)}{a:List Qm}(h:Pu ch a){c:List DL}{t:Qm}(b:Fb c t):Pu (ch++[c]) (a++[t]):=XF.append h (.cons b .nil)
def CN (E:Xa)(c:List PL)(m:List Nat)(ch ch':List (List DL)):Prop:=
 ∀G,∃G',E.heap 131 [.one (.mp 0),.agg (c.map .p),.agg (Xu m)] (US ch::G)=some (.XZ [],US ch'::(G++G'))
theorem pz {B:Xs}(f:Std B){ch:List (List DL)}{l:List Qm}(h:Pu ch l){c:List PL}{z:Rat}(v:RP c z){m:List Nat}(a:XE m)(W:Sq z)(U:∀t∈l,Sq t.1):
  ∃b,Pu b (U6 z m l)/\X1 B fun E _=>CN E c m ch b:=by
 obtain⟨n,y,d,u,rfl⟩:=v.len;by_cases C:∃t∈l,m=t.2
 ·obtain⟨i,c,t,h1,I,J,L,O,r⟩:=wm a.1 h C z;obtain⟨n2,y2,Z,u2,rfl,Y,q3⟩:=L;subst J;have o:=O 0;rw[Z8]at o;obtain⟨e,R,j⟩:=fj f Y v (U t (Zn I)) W;obtain⟨D,H,A,F,rfl⟩:=j.len;refine⟨ch.set i (Ns t.2 (.bool D) H (.bool A) F),?_,?_⟩
  ·rw[r];exact Pu.set h (t:=(t.1+z,t.2)) ⟨D,H,A,F,rfl,j,a⟩ i
  ·obtain⟨N,Q⟩:=R.Xj;obtain⟨M,s⟩:=f.Xj;refine⟨max N M+1,fun K k P S G=> ?_⟩;obtain⟨k,rfl⟩:∃w,k=w+1:=⟨k-1,by omega⟩;obtain⟨q,g⟩:=pj (K:=K) (s K k (by omega) (by omega)) a.1 o (Q K k (by omega) (by omega)) G;refine⟨q,?_⟩;show(match B.X 131 with
    |some x=>Uh (B.E K k) K x [.one (.mp 0),.agg [.p (.bool n),.p y,.p (.bool d),.p u],.agg (Xu t.2)] (US ch::G)
    |none=>(B.E K k).heap 131 [.one (.mp 0),.agg [.p (.bool n),.p y,.p (.bool d),.p u],.agg (Xu t.2)] (US ch::G))=_
   rw[f.Wa 131 x131 rfl];exact g
 ·have T:∀t∈l,m≠t.2:=fun t V e=>C ⟨t,V,e⟩
  obtain⟨o,r⟩:=wo a.1 h T z 0;refine⟨ch++[Ns m (.bool n) y (.bool d) u],?_,?_⟩
  ·rw[r];exact Pu.snoc h (t:=(z,m)) ⟨n,y,d,u,rfl,v,a⟩
  ·obtain⟨M,s⟩:=f.Xj;refine⟨M+1,fun K k P S G=> ?_⟩;obtain⟨k,rfl⟩:∃w,k=w+1:=⟨k-1,by omega⟩;obtain⟨q,g⟩:=pk (K:=K) (n:=.bool n) (y:=y) (d:=.bool d) (u:=u) (s K k (by omega) (by omega)) a.1 o G;refine⟨q,?_⟩;show(match B.X 131 with
    |some x=>Uh (B.E K k) K x [.one (.mp 0),.agg [.p (.bool n),.p y,.p (.bool d),.p u],.agg (Xu m)] (US ch::G)
    |none=>(B.E K k).heap 131 [.one (.mp 0),.agg [.p (.bool n),.p y,.p (.bool d),.p u],.agg (Xu m)] (US ch::G))=_
   rw[f.Wa 131 x131 rfl];exact g
inductive km (E:Xa)(c:List PL)(m:List Nat):List (List PL)->List (List DL)->List (List DL)->Prop
 |nil {ch:List (List DL)}:km E c m [] ch ch
 |cons {x y z u r1 r2 r3 r4:PL} {k:List Nat} {qs:List (List PL)} {ch ch1 ch2:List (List DL)} (hk:XE k) (hs:XE (Xg m k)) (h1:E.pure 130 [.agg (mo m),.agg (mo k)]=some (.XZ [.agg (mo (Xg m k)),.one (.int .i64 (.ofNat 0))]))
   (h2:E.pure 64 [.agg c,.agg [x,y,z,u]]=some (.agg [r1,r2,r3,r4])) (h3:CN E [r1,r2,r3,r4] (Xg m k) ch ch1) (h:km E c m qs ch1 ch2):km E c m ((x::y::z::u::mo k)::qs) ch ch2
inductive gV (E:Xa)(qs:List (List PL)):List (List PL)->List (List DL)->List (List DL)->Prop
 |nil {ch:List (List DL)}:gV E qs [] ch ch
 |cons {x y z u:PL} {m:List Nat} {ps:List (List PL)} {ch ch1 ch2:List (List DL)} (hm:XE m) (h1:km E [x,y,z,u] m qs ch ch1) (h:gV E qs ps ch1 ch2):gV E qs ((x::y::z::u::mo m)::ps) ch ch2
theorem yO {E:Xa}{K:Nat}{lp f:PL}(v:E.mode=md){a:List (List PL)}(sl:Sl f a)(hl:a.length<1000000){x y z u:PL}{m:List Nat}(t:m.length=8)(j:Nat){o1 o2:DV}:∀(rest:List (List PL)) (ch d:List (List DL)),km E [x,y,z,u] m rest ch d->
  ∀(i k:Nat) (G:List Xz),G[j]? =some ⟨false,0,12,[.p x::.p y::.p z::.p u::Xu m],false,75⟩->a.drop i=rest->i+rest.length=a.length->rest.length<k->
  ∃c g,Xb E K 0 [1,6,8,14,15,16,20,21,22] x78_1 k ⟨[(1,.one (.p f)),(6,.one (.mp 0)),(8,.one (.ptr (j+1) 0 0 0)),(14,.one (.p lp)),(15,o1),(16,o2),(20,.one (.p f)),(21,.one (.p (.int .i64 (.ofNat a.length)))),(22,.one (.p (.int .i64 (.ofNat i))))],US ch::G⟩=
    some (.exit 2,⟨c,US d::g⟩)/\Xh c 1=some (.one (.p f))/\Xh c 6=some (.one (.mp 0))/\Xh c 14=some (.one (.p lp))/\Xh c 15=some o1/\Xh c 16=some o2:=by
 intro rest ch d h;induction h with
 |@nil ch=>
  intro i k G n D l q;obtain⟨k,rfl⟩:∃A,k=A+1:=⟨k-1,by omega⟩;have e:¬i<a.length:=by simp at l;omega
  apply AD
  ·rw[Xb];simp only[Xm,Xq,reduceIte,Nat.reduceEqDiff,x78_1,e];rfl
  ·simp only[Xm,reduceIte,Nat.reduceEqDiff,and_self]
 |@cons x2 H I F r1 r2 r3 r4 b qs ch N O q Y U V W h Z=>
  intro i k G n D l s;obtain⟨k,rfl⟩:∃A,k=A+1:=⟨k-1,by omega⟩;simp only[Zi]at l s;have e:i<a.length:=by omega
  obtain⟨T,P⟩:=Xi D;have iq:=fun(X:HF) (kd:IntKind)=>sl.idx (h:=X) (k:=kd) (sz:=12) T (by simp[XI,q.1])
  have Q:Xe .i64 (.ofNat (i+1))=.ofNat (i+1):=wrap_i64 (by omega);have r:=q.1;have w:=Y.1;have t1:(Xu m).take 8=Xu m:=Zd (by rw[Xc];omega);have t2:(Xu b).take 8=Xu b:=Zd (by rw[Xc];omega);have t3:(Xu (Xg m b)).take 8=Xu (Xg m b):=Zd (by rw[Xc];omega);have d1:(Xu m).drop 8=[]:=Zm (by rw[Xc];omega);have d2:(Xu b).drop 8=[]:=Zm (by rw[Xc];omega);have d3:(Xu (Xg m b)).drop 8=[]:=Zm (by rw[Xc];omega);have o:j<G.length:=(Zb.1 n).1;have C:∀L:List Xz,(G++L)[j]? =some ⟨false,0,12,[.p x::.p y::.p z::.p u::Xu m],false,75⟩:=fun L=>by rw[ZB o];exact n
  obtain⟨J,B⟩:=W (G++[⟨false,0,12,[.p x2::.p H::.p I::.p F::Xu b],false,75⟩,⟨false,0,8,[Xu (Xg m b)],false,73⟩]);simp only[Zr,ZE]at B;obtain⟨c,g,R,S⟩:=Z (i+1) k (G++([⟨false,0,12,[.p x2::.p H::.p I::.p F::Xu b],false,75⟩,⟨false,0,8,[Xu (Xg m b)],false,73⟩]++J)) (C _) P (by omega) (by omega);refine⟨c,g,?_,S⟩;have M:TZ [0,6,5,2,4,1,3] 7=true:=rfl;have n1:¬G.length+2+1<=j+1:=by omega
  have n2:¬G.length+2+1<=G.length+1:=by omega
  have n3:¬G.length+2+1<=G.length+1+1:=by omega
  rw[Xb];simp only[Xm,Vm,uE,ite_self,M,n1,n2,n3,Xq,Vg,reduceIte,Nat.reduceEqDiff,Nat.reduceLeDiff,Nat.reduceAdd,x78_1,e,iq,C,Wk,Xc,r,w,t,t1,t2,t3,Wb,Wf,v,X5,U,V,B,Q];rw[Zq];exact R
theorem vP {E:Xa}{K:Nat}{lp v:PL}(q:E.mode=md){a e:List (List PL)}(W:Sl lp a)(w:Sl v e)(hl:a.length<1000000)(o:e.length<1000000)(P:e.length<K):∀(rest:List (List PL)) (ch b:List (List DL)),gV E e rest ch b->
  ∀(i k:Nat) (G:List Xz),a.drop i=rest->i+rest.length=a.length->rest.length<k->
  ∃f g,Xb E K 0 [1,6,14,15,16] x78_2 k ⟨[(1,.one (.p v)),(6,.one (.mp 0)),(14,.one (.p lp)),(15,.one (.p (.int .i64 (.ofNat a.length)))),(16,.one (.p (.int .i64 (.ofNat i))))],US ch::G⟩=
    some (.exit 0,⟨f,US b::g⟩)/\Xh f 6=some (.one (.mp 0)):=by
 intro rest ch b h;induction h with
 |@nil ch=>
  intro i k G s l hk;obtain⟨k,rfl⟩:∃r,k=r+1:=⟨k-1,by omega⟩;have c:¬i<a.length:=by simp at l;omega
  apply AD
  ·rw[Xb];simp only[Xm,Xq,reduceIte,Nat.reduceEqDiff,x78_2,c];rfl
  ·simp only[Xm,reduceIte,Nat.reduceEqDiff]
 |@cons x y z u m ps ch j B t O h R=>
  intro i k G s l n;obtain⟨k,rfl⟩:∃r,k=r+1:=⟨k-1,by omega⟩;simp only[Zi]at l n;have c:i<a.length:=by omega
  obtain⟨N,C⟩:=Xi s;have S:=fun(Q:HF) (T:IntKind)=>W.idx (h:=Q) (k:=T) (sz:=12) N (by simp[XI,t.1])
  have D:Xe .i64 (.ofNat (i+1))=.ofNat (i+1):=wrap_i64 (by omega);have d:=t.1;have X:(Xu m).take 8=Xu m:=Zd (by rw[Xc];omega);have Z:(Xu m).drop 8=[]:=Zm (by rw[Xc];omega);obtain⟨Y,A,F,H,I,J,L,M⟩:=yO (K:=K) (lp:=lp) q w o d G.length (o1:=.one (.p (.int .i64 (.ofNat a.length)))) (o2:=.one (.p (.int .i64 (.ofNat i)))) e ch j O 0 K (G++[⟨false,0,12,[.p x::.p y::.p z::.p u::Xu m],false,75⟩]) (by simp) (by simp) (by simp) P;obtain⟨f,g,U,V⟩:=R (i+1) k A C (by omega) (by omega);refine⟨f,g,?_,V⟩;rw[Xb];simp only[Xm,uE,Xq,Vg,reduceIte,Nat.reduceEqDiff,Nat.reduceLeDiff,Nat.reduceAdd,x78_2,c,S,Wk,Xc,d,X,w.len,F,H,I,J,L,M,D];exact U
structure iH (B:Xs):Prop extends Std B where
 sorted:∀args H r,Rm args H=some r->B.E0.heap 132 args H=some r
theorem kh (z:Rat)(m:List Nat)(b:List Nat->Rat):∀a,Wc (U6 z m a) b=Wc a b+z*b m
 |[]=>by simp only[U6,Wc];grind
 |t::a=>by
  unfold U6;split
  ·rename_i e;subst e;simp only[Wc];grind
  ·simp only[Wc,kh z m b a];grind
theorem gP (z:Rat)(m:List Nat):∀a,((U6 z m a).map (·.2))=a.map (·.2)\/(m∉a.map (·.2)/\(U6 z m a).map (·.2)=a.map (·.2)++[m])
 |[]=>.inr ⟨by simp,rfl⟩
 |t::a=>by
  unfold U6;split
  ·rename_i e;subst e;exact .inl rfl
  ·rename_i e;rcases gP z m a with h|⟨h1,h2⟩
   ·exact .inl (by simp[h])
   ·exact .inr ⟨by simp;exact⟨e,by simpa using h1⟩,by simp[h2]⟩
theorem pV {z:Rat}{m:List Nat}{c:List Qm}(h:(c.map (·.2)).Nodup):((U6 z m c).map (·.2)).Nodup:=by
 rcases gP z m c with h1|⟨h1,h2⟩
 ·rw[h1];exact h
 ·rw[h2,List.nodup_append];refine⟨h,by simp,fun a f b d=> ?_⟩;simp at d;subst d;intro e;exact h1 (e▸f)
def Fr (D c:Nat)(x:Rat):Prop:=∃z:Int,x*(D:Rat)=(z:Rat)/\z.natAbs<=c
def QL (D c:Nat)(ts:List Qm):Prop:=∀t∈ts,Fr D c t.1
theorem Fr.add {D c b:Nat}{x y:Rat}(h:Fr D c x)(k:Fr D b y):Fr D (c+b) (x+y):=by
 obtain⟨z,e,f⟩:=h;obtain⟨d,a,g⟩:=k;exact⟨z+d,by rw[Rat.add_mul,e,a,Rat.intCast_add],by omega⟩
theorem Fr.mul {D a c b:Nat}{x y:Rat}(h:Fr D c x)(k:Fr a b y):Fr (D*a) (c*b) (x*y):=by
 obtain⟨z,e,f⟩:=h;obtain⟨i,d,g⟩:=k;refine⟨z*i,?_,by rw[Yf];exact ZU f g⟩;rw[Yg,<-e,<-d,Y9];grind
theorem Fr.mono {D c b:Nat}{x:Rat}(h:Fr D c x)(k:c<=b):Fr D b x:=by
 obtain⟨z,e,a⟩:=h;exact⟨z,e,by omega⟩
theorem gQ {z:Rat}{m:List Nat}{D c b:Nat}(e:Fr D b z):∀{d:List Qm},QL D c d->QL D (c+b) (U6 z m d)
 |[],_=>by intro t a;simp[U6]at a;subst a;exact e.mono (by omega)
 |u::d,h=>by
  have f:=h u (Ze ..);have g:QL D c d:=fun t a=>h t (Zc _ a)
  unfold U6;split
  ·intro t a;rcases Zj.1 a with rfl|a
   ·exact f.add e
   ·exact(g t a).mono (by omega)
  ·intro t a;rcases Zj.1 a with rfl|a
   ·exact f.mono (by omega)
   ·exact gQ e g t a
theorem kj (z:Rat)(m:List Nat):∀a:List Qm,(U6 z m a).length<=a.length+1
 |[]=>by simp[U6]
 |t::a=>by
  unfold U6;split
  ·simp
  ·have:=kj z m a;simp;omega
def tY (z:Rat)(m:List Nat):List Qm->List Qm->List Qm
 |[],acc=>acc
 |u::us,acc=>tY z m us (U6 (z*u.1) (Xg m u.2) acc)
def iA (us:List Qm):List Qm->List Qm->List Qm
 |[],acc=>acc
 |t::ts,acc=>iA us ts (tY t.1 t.2 us acc)
theorem tW (z:Rat)(m:List Nat)(c:List Nat->Rat):∀(b a:List Qm),Wc (tY z m b a) c=Wc a c+z*Wc b fun k=>c (Xg m k)
 |[],a=>by simp only[tY,Wc];grind
 |u::b,a=>by
  simp only[tY,tW z m c b,kh,Wc]
  grind
theorem nR (d:List Qm)(c:List Nat->Rat):∀(b a:List Qm),Wc (iA d b a) c=Wc a c+Wc b fun m=>Wc d fun k=>c (Xg m k)
 |[],a=>by simp only[iA,Wc];grind
 |t::b,a=>by
  simp only[iA,nR d c b,tW,Wc];grind
theorem jB {z:Rat}{m:List Nat}:∀{us a:List Qm},(a.map (·.2)).Nodup->((tY z m us a).map (·.2)).Nodup
 |[],_,h=>h
 |_::us,_,h=>jB (us:=us) (pV h)
theorem fC {b:List Qm}:∀{ts a:List Qm},(a.map (·.2)).Nodup->((iA b ts a).map (·.2)).Nodup
 |[],_,h=>h
 |_::ts,_,h=>fC (ts:=ts) (jB h)
theorem zj {z:Rat}{m:List Nat}{D e a b:Nat}(f:Fr D a z):∀{us d:List Qm} {c:Nat},QL e b us->QL (D*e) c d->QL (D*e) (c+us.length*(a*b)) (tY z m us d)
 |[],_,_,_,h=>by simpa[tY]using h
 |u::us,d,c,hb,h=>by
  have:=zj (us:=us) (m:=m) f (fun t g=>hb t (Zc _ g)) (gQ (m:=Xg m u.2) (f.mul (hb u (Ze ..))) h);simp only[tY,Zi,ZG,ZZ];rw[show c+(us.length*(a*b)+a*b)=c+a*b+us.length*(a*b)by omega];exact this
theorem tX {z:Rat}{m:List Nat}:∀(b a:List Qm),(tY z m b a).length<=a.length+b.length
 |[],_=>by simp[tY]
 |u::b,a=>by
  have c:=tX (z:=z) (m:=m) b (U6 (z*u.1) (Xg m u.2) a);have d:=kj (z*u.1) (Xg m u.2) a;simp only[tY,Zi];omega
theorem vD {c d:List Qm}(h:c.Perm d)(e:List Nat->Rat):Wc c e=Wc d e:=by
 induction h with
 |nil=>rfl
 |cons t _ f=>simp only[Wc,f]
 |swap t u l=>simp only[Wc];grind
 |trans _ _ a b=>rw[a,b]
theorem PR (b:List Nat->Rat):∀a:List Qm,Wc (a.filter fun t=>t.1 !=0) b=Wc a b
 |[]=>rfl
 |t::a=>by
  by_cases h:t.1=0
  ·rw[Yy (by simp[h])];simp only[Wc,h,PR b a];grind
  ·rw[YE (by simp[h])];simp only[Wc,PR b a]
theorem wR {n o:Type}{R:n->o->Prop}{m d:List n}(s:d.Perm m):∀{b:List o},XF R m b->∃a,XF R d a/\a.Perm b:=by
 induction s with
 |nil=>intro b h;exact⟨b,h,.refl _⟩
 |cons x _ t=>
  intro b h;cases h with |cons i c=> ?_
  obtain⟨a,f,g⟩:=t c;exact⟨_,.cons i f,g.cons _⟩
 |swap x y l=>
  intro b h;cases h with |cons i c=> ?_
  cases c with |cons c r=> ?_
  exact⟨_,.cons c (.cons i r),.swap ..⟩
 |trans _ _ j k=>
  intro b h;obtain⟨a,f,g⟩:=k h;obtain⟨e,p,q⟩:=j f;exact⟨e,p,q.trans g⟩
theorem pQ {e f:Type}{R:e->f->Prop}{p:e->Bool}{q:f->Bool}(b:∀x y,R x y->p x=q y){c:List e}{d:List f}(h:XF R c d):XF R (c.filter p) (d.filter q):=by
 induction h with
 |nil=>exact .nil
 |@cons x y c d g j i=>
  have:=b _ _ g;cases a:p x with
  |true=>rw[YE a,YE (this▸a)];exact .cons g i
  |false=>rw[Yy (by simp[a]),Yy (by simp[<-this,a])];exact i
theorem Dx {c:List PL}{t:Qm}(h:W9 c t):nz c=(t.1 !=0):=by
 obtain⟨n,a,d,b,rfl,⟨o,k,m,l,f,⟨q,e1,i⟩,-⟩,-⟩:=h;simp only[ZJ,PL.bool.injEq,and_true]at f;obtain⟨rfl,rfl,rfl,rfl⟩:=f;simp only[ZJ,PL.bool.injEq,and_true]at e1;obtain⟨-,rfl⟩:=e1;have g:t.1=0↔t.1.num.natAbs=0:=by rw[Int.natAbs_eq_zero];exact Rat.num_eq_zero.symm
 rcases i with e|⟨e,rfl⟩
 ·subst e;by_cases h0:t.1=0
  ·simp[h0,Ub,WU,nz]
  ·have :t.1.num.natAbs≠0:=fun e=>h0 (g.2 e)
   rw[Uu this];simp[Ub,nz,h0]
 ·have j:Xd t.1.num.natAbs=[]:=by simpa[Ub]using e
  have :t.1.num.natAbs=0:=WV.1 (by rw[j];rfl);simp[g.2 this,nz]
theorem zK {c:List DL}{t:Qm}(h:Fb c t):∃e,cj c=some e/\W9 e t/\VT e=t.2:=by
 obtain⟨n,y,d,u,rfl,b,a⟩:=h;have j:=ku (mo t.2++[PL.bool n,y,.bool d,u]);have k:Ns t.2 (.bool n) y (.bool d) u=(mo t.2++[PL.bool n,y,.bool d,u]).map DL.p:=by simp[Ns,Xu,mo]
 have q:(mo t.2++[PL.bool n,y,.bool d,u]).take 8=mo t.2:=by rw[Y6 (by rw[XI];have:=a.1;omega),Zd (by rw[XI];have:=a.1;omega)]
 have i:(mo t.2++[PL.bool n,y,.bool d,u]).drop 8=[.bool n,y,.bool d,u]:=by
  rw[YT (by rw[XI];have:=a.1;omega),Zm (by rw[XI];have:=a.1;omega)];rfl
 have l:isTerm (PL.bool n::y::.bool d::u::mo t.2)=true:=by unfold isTerm;rw[OD a];rfl
 refine⟨.bool n::y::.bool d::u::mo t.2,?_,⟨n,y,d,u,rfl,b,a⟩,vS a⟩;have o:y=.XC\/∃g,y=.Xp g:=by
  obtain⟨w,r,v,s,f,⟨m,e,b⟩,-⟩:=b;simp only[ZJ,and_true]at f e;obtain⟨-,rfl,-,-⟩:=f;obtain⟨-,rfl⟩:=e;rcases b with e|⟨-,e⟩
  ·exact .inr ⟨_,e⟩
  ·exact .inl e
 rcases o with rfl|⟨g,rfl⟩<;>simp only[cj,k,j,i,q,l,cond_true]
theorem zL {ch:List (List DL)}{b:List Qm}(h:Pu ch b):∃a,Xt cj ch=some a/\XF (fun c t=>W9 c t/\VT c=t.2) a b:=by
 induction h with
 |nil=>exact⟨[],rfl,.nil⟩
 |cons g _ l=>
  obtain⟨a,d,f⟩:=l;obtain⟨e,i,j,k⟩:=zK g;exact⟨e::a,by simp only[Xt,i,d],.cons ⟨j,k⟩ f⟩
theorem Ab {g:List (List PL)}{f:List Qm}(h:XF (fun c t=>W9 c t/\VT c=t.2) g f)(j:(f.map (·.2)).Nodup):UQ g=true:=by
 induction h with
 |nil=>rfl
 |@cons c t g f m k q=>
  simp only[Zr,List.nodup_cons]at j;simp only[UQ,Zs,ZW,Yx];refine⟨fun d n=> ?_,q j.2⟩;cases o:gz Nat.beq (VT c) (VT d)with
  |false=>rfl
  |true=>
   exfalso;have e:VT c=VT d:=ef (fun x y h=>Zl h) _ _ o;obtain⟨i,l⟩:=ZC.1 n;have b:i<f.length:=by rw[<-k.length];exact(Zb.1 l).1
   obtain⟨r,a,-,p⟩:=k.get i _ (Zf b);rw[l]at a;cases a;refine j.1 (ZQ.2 ⟨f[i],Yz b,?_⟩);rw[<-p,<-e,m.2]
theorem kD {ch:List (List DL)}{k:List Qm}(h:Pu ch k)(R:(k.map (·.2)).Nodup)(Y:k.length<60000):
  ∃J l,(∀G,Rm [.one (.mp 0)] (US ch::G)=some (.one (.p (.Xp J)),(US ch::G).map Vq))/\X4 J l/\Pv l/\l.Perm (k.filter fun t=>t.1 !=0):=by
 obtain⟨j,F,z⟩:=zL h;have m:=Ab z R;have D:=Nr F;have P:j.length=k.length:=z.length;have I:ch.length=k.length:=h.length;have N:=pQ (p:=nz) (q:=fun t=>t.1 !=0) (fun c t A=>Dx A.1) z;obtain⟨l,v,w⟩:=wR (Ud (j.filter nz)) N;have B:Nat.blt ch.length 60000=true:=Og (by omega);have n:=jq m (List.filter_sublist (p:=nz));have g:Tk (j.filter nz):=fun c A=>D c (YD.1 A).1
 have o:=Rf g;have a:=fG n (Ud _);have b:=cV g;refine⟨Tg (j.filter nz),l,fun G=> ?_,v.imp fun _ _ h=>h.1,?_,w⟩
 ·have h0:(US ch::G)[0]? =some (US ch):=rfl;simp only[Rm,h0,YW,B,F,m,YU,cond_true];rfl
 ·refine⟨fun t S=>by simpa using(YD.1 (w.mem_iff.1 S)).2,?_⟩;have f:(Tg (j.filter nz)).Pairwise fun x y=>VT x≠VT y:=by
   have H:=RW a;have M:=Sn a;rw[List.nodup_iff_pairwise_ne]at H;exact H.imp_of_mem fun r s C e=>C (M _ r _ s e)
  have d:(Tg (j.filter nz)).Pairwise fun x y=>WL (VT x) (VT y)=.ofNat 1:=by
   refine(o.and f).imp_of_mem fun{x y} r s ⟨K,L⟩=> ?_
   rcases Vz (VT x) (VT y)with h|h|h
   ·exact h
   ·exact absurd (show S8 y x<0 by unfold S8;rw[Pg];exact h) K
   ·exfalso;obtain⟨_,_,_,_,-,Z,-⟩:=Wm (b x r);obtain⟨_,_,_,_,-,l2,-⟩:=Wm (b y s);exact L (Su (by omega) h)
  clear o f w a b;generalize Tg (j.filter nz)=X at v d;induction v with
  |nil=>exact .nil
  |@cons x t X l r E U=>
   obtain⟨V,W⟩:=Zv.1 d;refine Zv.2 ⟨fun u T=> ?_,U W⟩;obtain⟨i,O⟩:=ZC.1 T;obtain⟨y,s,-,Q⟩:=E.get i u O;have:=V y (Zn s)
   rwa[r.2,Q]at this
theorem Fr.sq {D c C k:Nat}{x:Rat}(h:Fr D c x)(g:k<10000000)(f:0<D)(a:D<=C)(b:c<=C)(d:C<4294967296^k):Sq x:=by
 obtain⟨z,e,i⟩:=h;exact Sq.le g f e a (Zy i b) d
structure Ar (D D' a b C k:Nat):Prop where
 k7:k<10000000
 d1:0<D
 d2:0<D'
 dd:D*D'<=C
 aa:a<=C
 bb:b<=C
 C:C<4294967296^k
theorem vQ {B:Xs}(I:Std B){D l a b C k:Nat}(f:Ar D l a b C k){c:List PL}{z:Rat}(hc:RP c z){m:List Nat}(L:XE m)(Q:Fr D a z):∀{G:List (List PL)} {j:List Qm},X4 G j->QL l b j->(∀u∈j,XE (Xg m u.2))->
  ∀{ch:List (List DL)} {g:List Qm} {d:Nat},Pu ch g->QL (D*l) d g->d+j.length*(a*b)<=C->∃n,Pu n (tY z m j g)/\X1 B fun E _=>km E c m G ch n:=by
 intro G j h;have hD:D<=C:=Zy (YK _ f.d2) f.dd;have J:l<=C:=Zy (YQ _ f.d1) f.dd;have o:0<D*l:=Yn f.d1 f.d2;induction h with
 |nil=>intro _ _ ch g d M _ _;exact⟨ch,M,X1.of fun _ _=>.nil⟩
 |@cons q u G j hu h ih=>
  intro N P ch g d M O s;obtain⟨x,y,w,v,rfl,p1,R⟩:=hu;have p:=N u (Ze ..);have i:=P u (Ze ..);simp only[Zi,ZG,ZZ]at s;have V:=cO I L R i;obtain⟨e,W,r⟩:=PG I hc p1 (Q.sq f.k7 f.d1 hD f.aa f.C) (p.sq f.k7 f.d2 J f.bb f.C);have F:=Q.mul p;obtain⟨S,X,Y⟩:=pz I M r i (F.sq f.k7 o f.dd (by omega) f.C) fun t A=>(O t A).sq f.k7 o f.dd (by omega) f.C
  obtain⟨H,Z,h4⟩:=ih (fun t A=>N t (Zc _ A)) (fun t A=>P t (Zc _ A)) X (gQ (m:=Xg m u.2) F O) (by omega);obtain⟨r1,r2,r3,r4,rfl,-,-⟩:=r;exact⟨H,Z,(h4.and (Y.and (V.Xj.and W.Xj))).mono fun E K ⟨e1,e2,T,U⟩=>.cons R i T U e2 e1⟩
theorem ri {B:Xs}(N:Std B){D n a b C k:Nat}(O:Ar D n a b C k){G:List (List PL)}{j:List Qm}(P:X4 G j)(s:QL n b j):∀{l:List (List PL)} {c:List Qm},X4 l c->QL D a c->(∀t∈c,∀u∈j,XE (Xg t.2 u.2))->
  ∀{ch:List (List DL)} {acc:List Qm} {d:Nat},Pu ch acc->QL (D*n) d acc->d+c.length*(j.length*(a*b))<=C->
  ∃e,Pu e (iA j c acc)/\X1 B fun E _=>gV E G l ch e:=by
 intro l c h;induction h with
 |nil=>intro _ _ ch acc d q _ _;exact⟨ch,q,X1.of fun _ _=>.nil⟩
 |@cons p t l c g h Q=>
  intro r A ch acc d q z f;obtain⟨x,y,w,v,rfl,R,F⟩:=g;have i:=r t (Ze ..);simp only[Zi,ZG,ZZ]at f⊢;obtain⟨H,I,J⟩:=vQ N O R F i P s (A t (Ze ..)) q z (by omega);obtain⟨o,L,M⟩:=Q (fun t g=>r t (Zc _ g)) (fun t g=>A t (Zc _ g)) I (zj (m:=t.2) i s z) (by omega);exact⟨o,L,(M.and J).mono fun E K ⟨e1,e2⟩=>.cons F e2 e1⟩
theorem nS {us:List Qm}:∀(b a:List Qm),(iA us b a).length<=a.length+b.length*us.length
 |[],_=>by simp[iA]
 |t::b,a=>by
  have c:=nS (us:=us) b (tY t.1 t.2 us a);have d:=tX (z:=t.1) (m:=t.2) us a;simp only[iA,Zi,ZG,ZZ];omega
theorem jk {B:Xs}(q:iH B){D D' a b C k:Nat}(T:Ar D D' a b C k){x y:PL}{f g:List Qm}(U:PQ x f)(V:PQ y g)(R:QL D a f)(S:QL D' b g)(Z:∀t∈f,t.1≠0)(dg:Pv g)(W:∀t∈f,∀u∈g,XE (Xg t.2 u.2))(w:f.length*(g.length*(a*b))<=C)(hl:f.length*g.length<60000)(l1:f.length<1000)(l2:g.length<1000):
  ∃o,Xx B 78 [.one x,.one y] (.XZ [.one (.Xp o),.one (.int .i64 (.ofNat 0))])/\X4 o (Ry [] f g):=by
 obtain⟨z,H,c⟩:=U;obtain⟨qs,sq,i⟩:=V;have I:=c.length;have J:=i.length;have A:=c.qj.q8;have F:=i.qj.q8;obtain⟨ch,P,Q⟩:=ri q.toStd T i S c R W (ch:=[]) (acc:=[]) (d:=0) .nil (fun _ h=>by cases h) (by omega);have j:=nS (us:=g) f [];have s:((iA g f []).map (·.2)).Nodup:=fC (by simp);obtain⟨o,ws,L,M,N,O⟩:=kD P s (by simp at j;omega);have v:X1 B fun E _=>∀G,E.heap 132 [.one (.mp 0)] (US ch::G)=some (.one (.p (.Xp o)),(US ch::G).map Vq):=by
  exact⟨0,fun K n _ _ G=>(B.Cm (K:=0) (n:=0) (Zt K) (Zt n)).heap _ _ _ _ (q.sorted _ _ _ (L G))⟩
 refine⟨o,Xx.of (q.toStd.Wa _ _ rfl) ((Q.and (v.and (q.toStd.Xj.and (X1.ge (z.length+qs.length+1))))).mono fun E K ⟨e1,e2,l,hK⟩=> ?_),?_⟩
 ·obtain⟨T',G',X,Y⟩:=vP (K:=K) l H sq (by omega) (by omega) (by omega) z [] ch e1 0 K [] (by simp) (by simp) (by omega);have r:TA 8 true 0 []=some ⟨.one (.mp 0),[US []],[],[]⟩:=rfl;simp only[Xm,Vm,Xq,r,reduceIte,Nat.reduceEqDiff,Nat.reduceLeDiff,Nat.reduceAdd,x78,H.len,X,Y,e2,l,X5]
 ·have e:ws=Ry [] f g:=by
   refine Pv.ext N (uq A F (fun _ h=>by cases h) Z dg .nil) fun m=> ?_
   rw[Ve,Ve,vD O,PR,nR,nH (V2 m) A F (fun _ h=>by cases h)]
  rw[<-e];exact M
end Go.Proofs.YtidginchkjhobaaGreat
