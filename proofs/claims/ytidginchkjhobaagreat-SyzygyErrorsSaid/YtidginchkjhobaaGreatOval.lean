/- Which orders are valid: both functions answer the same, for every order. -/
import Derived.Test.YtidginchkjhobaaGreatGrC
set_option maxHeartbeats 16000000
set_option maxRecDepth 100000
namespace Go.Num
def lV:List Int->Int->Option Int
 |[],f=>some f
 |w::c,f=>if w< -1000\/1000<w then none else lV c (if f=0 then w else f)
def OT (o:List (List Int))(k:Nat):List Int:=o.map fun r=>r.getD k 0
def aH (o:List (List Int))(k:Nat):Bool:=match lV (OT o k) 0 with
 |some f=>decide (0<=f)
 |none=>false
def Pe (o:List (List Int))(k:Nat):Bool:=(List.range' k (8-k)).all (aH o)
theorem pd {o:List (List Int)}{i:Nat}(h:i<8):Pe o i=(aH o i&&Pe o (i+1)):=by
 unfold Pe;rw[show 8-i=(8-(i+1))+1 by omega,List.range'_succ,List.all_cons]
def TH (o:List (List Int)):Bool:=decide (o.length<=24)&&Pe o 0
end Go.Num
namespace Go.Proofs.YtidginchkjhobaaGreat
open Go.Ev Go.Num
theorem ei (x y:Int):Pc x y=decide (x=y):=by
 rw[cc];by_cases h:x=y
 ·rw[decide_eq_true h];simpa using h
 ·rw[decide_eq_false h];simpa using h
theorem vc {r:List Int}{i:Nat}{w:Int}(h:r[i]? =some w):(UE r).drop i=.int .i64 w::(UE r).drop (i+1):=by
 simp only[UE,<-List.map_drop];rw[cp h,Zr]
abbrev Gs (l:PL)(k i:Nat)(f:Int):List (Nat×DV):=[(0,.one (.p l)),(3,.one (.p (.int .i64 (.ofNat k)))),(4,.one (.p (.int .i64 f))),(5,.one (.p (.int .i64 (.ofNat i))))]
theorem xR {E:Xa}{K:Nat}{l:PL}{o:List (List Int)}(x:SG l o)(F:∀r∈o,r.length=8)(u:o.length<1000000){c:Nat}(q:c<8):∀(d i k:Nat) (f:Int),i+d=o.length->d<k->
  ∃n j,Xb E K 0 [0,3,4,5] x22_1 k ⟨Gs l c i f,[]⟩=some (n,⟨j,[]⟩)/\
   ((n=.exit 2/\∃g,lV (OT (o.drop i) c) f=some g/\Xh j 0=some (.one (.p l))/\Xh j 3=some (.one (.p (.int .i64 (.ofNat c))))/\Xh j 4=some (.one (.p (.int .i64 g))))\/(n=.ret/\lV (OT (o.drop i) c) f=none/\Xh j 2=some (.one (.p (.bool false)))))
 |_,_,0,_,_,h=>by omega
 |0,i,k+1,f,hi,_=>by
  have b:¬i<o.length:=by omega
  have a:=x.len;rw[ZP]at a;refine⟨.exit 2,?_⟩;rw[YA (by omega)];apply VE
  ·rw[Xb];simp only[Xm,Xq,reduceIte,Nat.reduceEqDiff,x22_1,a,b];rfl
  ·exact .inl ⟨rfl,f,rfl,by simp only[Xm,reduceIte,Nat.reduceEqDiff],by simp only[Xm,reduceIte,Nat.reduceEqDiff],by simp only[Xm,reduceIte,Nat.reduceEqDiff]⟩
 |d+1,i,k+1,f,hi,hk=>by
  have b:i<o.length:=by omega
  have a:=x.len;rw[ZP]at a;obtain⟨r,G⟩:∃r,o[i]? =some r:=⟨_,Zf b⟩;have v:=F r (Zn G);obtain⟨w,I⟩:∃w,r[c]? =some w:=⟨_,Zf (by omega)⟩;have e:=fun(M:HF) (N:IntKind)=>x.idx (h:=M) (k:=N) (sz:=8) (c:=UE r) (i:=i) (by rw[ZA,G];rfl) (by rw[UL,v])
  have H:Xe .i64 (.ofNat (i+1))=.ofNat (i+1):=wrap_i64 (by omega);have J:o.drop i=r::o.drop (i+1):=by
   obtain⟨t,rfl⟩:=Zb.1 G;exact ZV t
  have z:=vc I;have m:c<=8:=by omega
  have L:r.getD c 0=w:=by rw[YN,I];rfl
  rw[J];simp only[OT,Zr,lV,L];by_cases t:w< -1000
  ·have s:Tf w (.negSucc 999)=true:=by rw[WR];exact decide_eq_true t
   rw[if_pos (.inl t)];refine⟨.ret,?_⟩;apply VE
   ·rw[Xb];simp only[Xm,Xq,reduceIte,Nat.reduceEqDiff,Nat.reduceLeDiff,ZX,x22_1,a,b,e,q,m,UL,v,z,s];rfl
   ·exact .inr ⟨rfl,rfl,by simp only[Xm,reduceIte,Nat.reduceEqDiff]⟩
  ·have s:Tf w (.negSucc 999)=false:=by rw[WR];exact decide_eq_false t
   by_cases C:1000<w
   ·have y:Tf (.ofNat 1000) w=true:=by rw[WR];exact decide_eq_true C
    rw[if_pos (.inr C)];refine⟨.ret,?_⟩;apply VE
    ·rw[Xb];simp only[Xm,Xq,reduceIte,Nat.reduceEqDiff,Nat.reduceLeDiff,ZX,x22_1,a,b,e,q,m,UL,v,z,s,y];rfl
    ·exact .inr ⟨rfl,rfl,by simp only[Xm,reduceIte,Nat.reduceEqDiff]⟩
   ·have y:Tf (.ofNat 1000) w=false:=by rw[WR];exact decide_eq_false C
    rw[if_neg (by omega)];by_cases D:f=0
    ·subst D;rw[if_pos rfl];obtain⟨n,j,A,B⟩:=xR (E:=E) (K:=K) x F u q d (i+1) k w (by omega) (by omega);refine⟨n,j,?_,B⟩;rw[Xb,show(0:Int)=Int.ofNat 0 from rfl];simp only[Xm,Xq,reduceIte,Nat.reduceEqDiff,Nat.reduceLeDiff,ZX,x22_1,a,b,e,q,m,UL,v,z,s,y,H];exact A
    ·have c3:Pc f (.ofNat 0)=false:=by rw[ei];exact decide_eq_false D
     rw[if_neg D];obtain⟨n,j,A,B⟩:=xR (E:=E) (K:=K) x F u q d (i+1) k f (by omega) (by omega);refine⟨n,j,?_,B⟩;rw[Xb];simp only[Xm,Xq,reduceIte,Nat.reduceEqDiff,Nat.reduceLeDiff,ZX,x22_1,a,b,e,q,m,UL,v,z,s,y,c3,H];exact A
theorem xQ {E:Xa}{K:Nat}{l:PL}{o:List (List Int)}(w:SG l o)(v:∀r∈o,r.length=8)(f:o.length<1000000)(t:o.length<K):∀(d i k:Nat),i+d=8->d<k->
  ∃b j,Xb E K 0 [0,3] x22_2 k ⟨[(0,.one (.p l)),(3,.one (.p (.int .i64 (.ofNat i))))],[]⟩=some (b,⟨j,[]⟩)/\
   ((b=.exit 0/\Pe o i=true)\/(b=.ret/\Pe o i=false/\Xh j 2=some (.one (.p (.bool false)))))
 |_,_,0,_,h=>by omega
 |0,i,k+1,hi,_=>by
  obtain rfl:i=8:=by omega
  refine⟨.exit 0,?_⟩;apply VE
  ·rw[Xb];simp only[Xm,Xq,reduceIte,Nat.reduceEqDiff,x22_2,Zx];rfl
  ·exact .inl ⟨rfl,rfl⟩
 |d+1,i,k+1,hi,hk=>by
  have a:i<8:=by omega
  have A:Xe .i64 (.ofNat (i+1))=.ofNat (i+1):=wrap_i64 (by omega);obtain⟨b,j,m,s⟩:=xR (E:=E) (K:=K) w v f a o.length 0 K 0 (by omega) t;rw[Yb]at s;rw[show(0:Int)=Int.ofNat 0 from rfl]at m;rw[pd a];rcases s with⟨rfl,g,e,x,y,z⟩|⟨rfl,e,D⟩
  ·by_cases u:g<0
   ·have q:Tf g (.ofNat 0)=true:=by rw[WR];exact decide_eq_true u
    have c:aH o i=false:=by simp only[aH,e];exact decide_eq_false (by omega)
    rw[c,Bool.false_and];refine⟨.ret,?_⟩;apply VE
    ·rw[Xb];simp only[Xm,Xq,reduceIte,Nat.reduceEqDiff,Nat.reduceLeDiff,x22_2,a,m,x,y,z,q];rfl
    ·exact .inr ⟨rfl,rfl,by simp only[Xm,reduceIte,Nat.reduceEqDiff]⟩
   ·have q:Tf g (.ofNat 0)=false:=by rw[WR];exact decide_eq_false u
    have c:aH o i=true:=by simp only[aH,e];exact decide_eq_true (by omega)
    rw[c,YF];obtain⟨b,n,B,C⟩:=xQ (E:=E) (K:=K) w v f t d (i+1) k (by omega) (by omega);refine⟨b,n,?_,C⟩;rw[Xb];simp only[Xm,Xq,reduceIte,Nat.reduceEqDiff,Nat.reduceLeDiff,x22_2,a,m,x,y,z,q,A];exact B
  ·have c:aH o i=false:=by simp only[aH,e]
   rw[c,Bool.false_and];refine⟨.ret,j,?_,.inr ⟨rfl,rfl,D⟩⟩;rw[Xb];simp only[Xm,Xq,reduceIte,Nat.reduceEqDiff,Nat.reduceLeDiff,x22_2,a,m]
theorem uZ {B:Xs}(i:Std B){l:PL}{o:List (List Int)}(f:SG l o)(j:∀r∈o,r.length=8)(b:o.length<1000000):Xx B 22 [.one l] (.one (.bool (TH o))):=by
 have a:=f.len;rw[ZP]at a;refine Xx.of (i.Wa _ _ rfl) ((X1.ge (o.length+10)).mono fun E K p=> ?_);by_cases h:24<o.length
 ·have c:TH o=false:=by simp only[TH,decide_eq_false (show¬o.length<=24 by omega),Bool.false_and]
  rw[c];simp only[Xm,Xq,reduceIte,Nat.reduceEqDiff,Nat.reduceLeDiff,Nat.reduceAdd,x22,a,h]
 ·have c:TH o=Pe o 0:=by simp only[TH,decide_eq_true (show o.length<=24 by omega),YF]
  rw[c];obtain⟨n,m,d,g⟩:=xQ (E:=E) (K:=K) f j b (by omega) 8 0 K (by omega) (by omega);rcases g with⟨rfl,e⟩|⟨rfl,e,k⟩
  ·rw[e];simp only[Xm,Xq,reduceIte,Nat.reduceEqDiff,Nat.reduceLeDiff,Nat.reduceAdd,x22,a,h,d]
  ·rw[e];simp only[Xm,Xq,reduceIte,Nat.reduceEqDiff,Nat.reduceLeDiff,Nat.reduceAdd,x22,a,h,d,k]
end Go.Proofs.YtidginchkjhobaaGreat
namespace Go.Num
def Sv (w:Int)(s:Bool):Bool:=decide (w< -1000)||decide (1000<w)||(decide (w<0)&& !s)
def R5 (w:Int)(s:Bool):Bool:=s||decide (w≠0)
def kN (r:List Int):Nat->Nat->List Bool->Option (List Bool)
 |0,_,s=>some s
 |d+1,j,s=>if Sv (r.getD j 0) (s.getD j false)then none else kN r d (j+1) (s.set j (R5 (r.getD j 0) (s.getD j false)))
def N0:List (List Int)->List Bool->Bool
 |[],_=>true
 |r::o,s=>match kN r 8 0 s with
  |some s'=>N0 o s'
  |none=>false
def Nu:List Int->Bool->Bool
 |[],_=>true
 |w::c,s=> !Sv w s&&Nu c (R5 w s)
theorem pA:∀(c:List Int) (f:Int),f<0->(match lV c f with |some g=>decide (0<=g)|none=>false)=false
 |[],f,h=>decide_eq_false (by omega)
 |w::c,f,h=>by
  unfold lV;by_cases a:w< -1000\/1000<w
  ·rw[if_pos a]
  ·rw[if_neg a,if_neg (by omega)];exact pA c f h
theorem r9:∀(c:List Int) (f:Int),0<=f->(match lV c f with |some g=>decide (0<=g)|none=>false)=Nu c (decide (f≠0))
 |[],f,h=>decide_eq_true h
 |w::c,f,h=>by
  unfold lV Nu;by_cases a:w< -1000\/1000<w
  ·rw[if_pos a];have :Sv w (decide (f≠0))=true:=by
    rcases a with a|a
    ·simp only[Sv,decide_eq_true a,Bool.true_or]
    ·simp only[Sv,decide_eq_true a,Bool.or_true,Bool.true_or]
   rw[this];rfl
  ·rw[if_neg a];have b:decide (w< -1000)=false:=decide_eq_false (by omega);have d:decide (1000<w)=false:=decide_eq_false (by omega);by_cases e:f=0
   ·rw[if_pos e];have e1:decide (f≠0)=false:=decide_eq_false (by omega);rw[e1];by_cases i:w<0
    ·have :Sv w false=true:=by simp only[Sv,b,d,decide_eq_true i];rfl
     rw[this,pA c w i];rfl
    ·have :Sv w false=false:=by simp only[Sv,b,d,decide_eq_false i];rfl
     rw[this,r9 c w (by omega)];simp only[R5,Bool.false_or,YO,YF]
   ·rw[if_neg e];have e1:decide (f≠0)=true:=decide_eq_true e;have :Sv w true=false:=by simp only[Sv,b,d,Bool.not_true,Bool.and_false,Bool.or_self]
    rw[e1,this,r9 c f h,e1];simp only[R5,Bool.true_or,YO,YF]
theorem jc (r:List Int):∀(d j:Nat) (s:List Bool),j+d<=s.length->
  match kN r d j s with
  |some c=>c.length=s.length/\(∀k,j<=k->k<j+d->Sv (r.getD k 0) (s.getD k false)=false/\c.getD k false=R5 (r.getD k 0) (s.getD k false))/\∀k,(k<j\/j+d<=k)->c.getD k false=s.getD k false
  |none=>∃k,j<=k/\k<j+d/\Sv (r.getD k 0) (s.getD k false)=true
 |0,j,s,_=>⟨rfl,fun k e f=>by omega,fun _ _=>rfl⟩
 |d+1,j,s,hl=>by
  unfold kN;cases h:Sv (r.getD j 0) (s.getD j false)with
  |true=>rw[if_pos rfl];exact⟨j,by omega,by omega,h⟩
  |false=>
   rw[if_neg (by decide)];have l:=jc r d (j+1) (s.set j (R5 (r.getD j 0) (s.getD j false))) (by rw[ZT];omega);have a:∀k,k≠j->(s.set j (R5 (r.getD j 0) (s.getD j false))).getD k false=s.getD k false:=fun k i=>by
    simp only[YN];rw[ZM (by omega)]
   have g:(s.set j (R5 (r.getD j 0) (s.getD j false))).getD j false=R5 (r.getD j 0) (s.getD j false):=by
    rw[YN,YR (by omega)];rfl
   revert l;cases kN r d (j+1) (s.set j (R5 (r.getD j 0) (s.getD j false)))with
   |none=>
    rintro ⟨k,e,f,b⟩;exact⟨k,by omega,by omega,by rw[<-a k (by omega)];exact b⟩
   |some c=>
    rintro ⟨e,f,b⟩;refine⟨by rw[e,ZT],fun k m n=> ?_,fun k i=>by rw[b k (by omega)];exact a k (by omega)⟩;rcases Yj j k with hjk|hjk
    ·have:=f k (by omega) (by omega);rw[a k (by omega)]at this;exact this
    ·obtain rfl:k=j:=by omega
     exact⟨h,by rw[b k (by omega)];exact g⟩
theorem kL:∀(o:List (List Int)) (s:List Bool),s.length=8->(N0 o s=true↔∀k,k<8->Nu (OT o k) (s.getD k false)=true)
 |[],s,_=>⟨fun _ _ _=>rfl,fun _=>rfl⟩
 |r::o,s,h8=>by
  have g:=jc r 8 0 s (by omega);unfold N0;revert g;cases kN r 8 0 s with
  |none=>
   rintro ⟨k,_,c,f⟩;refine⟨fun h=>(by cases h),fun h=> ?_⟩;have:=h k (by omega);simp only[OT,Zr,Nu,f,Bool.not_true,Bool.false_and]at this;cases this
  |some e=>
   rintro ⟨i,c,_⟩;show N0 o e=true↔_;rw[kL o e (by omega)];constructor<;>intro h k d
   ·obtain⟨a,b⟩:=c k (by omega) (by omega);have:=h k d;rw[b]at this;simp only[OT,Zr,Nu,a,YO,YF];exact this
   ·obtain⟨a,b⟩:=c k (by omega) (by omega);have:=h k d;simp only[OT,Zr,Nu,a,YO,YF]at this;rw[b];exact this
theorem ph (o:List (List Int)):N0 o (List.replicate 8 false)=Pe o 0:=by
 rw[Bool.eq_iff_iff,kL _ _ (Ys ..)];unfold Pe;rw[ZW];have key:∀k,k<8->aH o k=Nu (OT o k) ((List.replicate 8 false).getD k false):=fun k a=>by
  rw[YN,Yd,if_pos a];exact r9 (OT o k) 0 (by decide)
 constructor
 ·intro h k a;have :k<8:=by simpa using a
  rw[key k this];exact h k this
 ·intro h k a;rw[<-key k a];exact h k (by simpa using a)
end Go.Num
namespace Go.Proofs.YtidginchkjhobaaGreat
open Go.Ev Go.Num
def AE (s:List Bool):List DL:=s.map fun b=>.p (.bool b)
theorem Pj (s:List Bool):(AE s).length=s.length:=ZP _
theorem Ah {s:List Bool}{i:Nat}{b:Bool}(h:s[i]? =some b):(AE s).drop i=.p (.bool b)::(AE s).drop (i+1):=by
 obtain⟨a,rfl⟩:=Zb.1 h;simp only[AE,<-List.map_drop];rw[ZV a,Zr]
theorem B9 {s:List Bool}{i:Nat}{b:Bool}(h:i<s.length):(AE s).take i++[.p (.bool b)]++(AE s).drop (i+1)=AE (s.set i b):=by
 rw[List.set_eq_take_append_cons_drop,if_pos h];simp only[AE,List.map_append,List.map_take,Zr,List.map_drop,Zq,Z5]
theorem zC {c d:Type}{p q:c->d->Prop}{a:c}{b:d}(h:p a b)(g:q a b):∃a b,p a b/\q a b:=⟨a,b,h,g⟩
abbrev Gu (l:PL)(n i:Nat)(r:List Int)(j:Nat):List (Nat×DV):=[(3,.one (.ptr 0 0 0 0)),(11,.one (.p l)),(12,.one (.p (.int .i64 (.ofNat n)))),(13,.one (.p (.int .i64 (.ofNat i)))),(17,.agg (UM r)),(18,.one (.p (.int .i64 (.ofNat j))))]
abbrev Fp (s:List Bool):Xz:=⟨false,0,8,[AE s],false,130⟩
theorem yr {E:Xa}{K:Nat}{l:PL}{n i:Nat}{r:List Int}(g:r.length=8)(H:List Xz):∀(d j k:Nat) (s:List Bool),j+d=8->d<k->s.length=8->
  ∃u f z,Xb E K 0 [3,11,12,13,17,18] x50_1 k ⟨Gu l n i r j,Fp s::H⟩=some (u,⟨f,z⟩)/\
   ((u=.exit 2/\∃J,kN r d j s=some J/\J.length=8/\z=Fp J::H/\Xh f 3=some (.one (.ptr 0 0 0 0))/\Xh f 11=some (.one (.p l))/\Xh f 12=some (.one (.p (.int .i64 (.ofNat n))))/\Xh f 13=some (.one (.p (.int .i64 (.ofNat i)))))\/(u=.ret/\kN r d j s=none/\Xh f 2=some (.one (.p (.bool false)))))
 |_,_,0,_,_,h,_=>by omega
 |0,j,k+1,s,hi,_,s8=>by
  obtain rfl:j=8:=by omega
  refine⟨.exit 2,?_⟩;apply zC
  ·rw[Xb];simp only[Xm,Xq,reduceIte,Nat.reduceEqDiff,x50_1,Zx];rfl
  ·exact .inl ⟨rfl,s,rfl,s8,rfl,by simp only[Xm,reduceIte,Nat.reduceEqDiff],by simp only[Xm,reduceIte,Nat.reduceEqDiff],by simp only[Xm,reduceIte,Nat.reduceEqDiff],by simp only[Xm,reduceIte,Nat.reduceEqDiff]⟩
 |d+1,j,k+1,s,hi,hk,s8=>by
  have q:j<8:=by omega
  have c:j<=8:=by omega
  have a:j<=7:=by omega
  obtain⟨w,M⟩:∃w,r[j]? =some w:=⟨_,Zf (by omega)⟩;obtain⟨b,L⟩:∃b,s[j]? =some b:=⟨_,Zf (by omega)⟩;have D:Xe .i64 (.ofNat (j+1))=.ofNat (j+1):=wrap_i64 (by omega);have P:=bC M;have y:=Ah L;have v:UP 8 false 1 [.agg (UM r),.one (.p (.int .i64 (.ofNat j)))]=some ⟨.one (.p (.int .i64 w)),[],[],[]⟩:=by
   simp only[UP,ZX,Og q,RK (show j<=(UM r).length by rw[Wv];omega),YU,cond_true,Ti,cond_false,P];rfl
  have O:r.getD j 0=w:=by rw[YN,M];rfl
  have N:s.getD j false=b:=by rw[YN,L];rfl
  simp only[kN,O,N];by_cases B:w< -1000
  ·have m:Tf w (.negSucc 999)=true:=by rw[WR];exact decide_eq_true B
   rw[show Sv w b=true by simp only[Sv,decide_eq_true B,Bool.true_or],if_pos rfl];refine⟨.ret,?_⟩;apply zC
   ·rw[Xb];simp only[Xm,Xq,reduceIte,Nat.reduceEqDiff,Nat.reduceLeDiff,ZX,x50_1,q,c,a,Wv,Pj,g,s8,v,y,m];rfl
   ·exact .inr ⟨rfl,rfl,by simp only[Xm,reduceIte,Nat.reduceEqDiff]⟩
  ·have m:Tf w (.negSucc 999)=false:=by rw[WR];exact decide_eq_false B
   by_cases C:1000<w
   ·have t:Tf (.ofNat 1000) w=true:=by rw[WR];exact decide_eq_true C
    rw[show Sv w b=true by simp only[Sv,decide_eq_true C,Bool.true_or,Bool.or_true],if_pos rfl];refine⟨.ret,?_⟩;apply zC
    ·rw[Xb];simp only[Xm,Xq,reduceIte,Nat.reduceEqDiff,Nat.reduceLeDiff,ZX,x50_1,q,c,a,Wv,Pj,g,s8,v,y,m,t];rfl
    ·exact .inr ⟨rfl,rfl,by simp only[Xm,reduceIte,Nat.reduceEqDiff]⟩
   ·have t:Tf (.ofNat 1000) w=false:=by rw[WR];exact decide_eq_false C
    have G:=fun x=>B9 (b:=x) (show j<s.length by omega)
    by_cases A:w<0
    ·have c3:Tf w (.ofNat 0)=true:=by rw[WR];exact decide_eq_true A
     have c4:Pc w (.ofNat 0)=false:=by rw[ei];exact decide_eq_false (fun e=>by rw[e]at A;exact absurd A (by decide))
     cases b with
     |false=>
      rw[show Sv w false=true by simp only[Sv,decide_eq_true A,YO,YU,Bool.or_true],if_pos rfl];refine⟨.ret,?_⟩;apply zC
      ·rw[Xb];simp only[Xm,Xq,reduceIte,Nat.reduceEqDiff,Nat.reduceLeDiff,ZX,x50_1,q,c,a,Wv,Pj,g,s8,v,y,m,t,c3];rfl
      ·exact .inr ⟨rfl,rfl,by simp only[Xm,reduceIte,Nat.reduceEqDiff]⟩
     |true=>
      rw[show Sv w true=false by simp only[Sv,decide_eq_false B,decide_eq_false C,Bool.not_true,Bool.and_false,Bool.or_false],if_neg (by decide),show R5 w true=true from rfl];obtain⟨u,f,z,o,I⟩:=yr (E:=E) (K:=K) (l:=l) (n:=n) (i:=i) g H d (j+1) k (s.set j true) (by omega) (by omega) (by rw[ZT];exact s8);refine⟨u,f,z,?_,I⟩;rw[Xb];simp(decide:=true)only[Xm,Xq,reduceIte,Nat.reduceEqDiff,Nat.reduceLeDiff,ZX,x50_1,q,c,a,Wv,Pj,g,s8,v,y,G,m,t,c3,c4,D];exact o
    ·have c3:Tf w (.ofNat 0)=false:=by rw[WR];exact decide_eq_false A
     rw[show Sv w b=false by simp only[Sv,decide_eq_false B,decide_eq_false C,decide_eq_false A,Bool.false_and,Bool.or_self],if_neg (by decide)];obtain⟨u,f,z,o,I⟩:=yr (E:=E) (K:=K) (l:=l) (n:=n) (i:=i) g H d (j+1) k (s.set j (R5 w b)) (by omega) (by omega) (by rw[ZT];exact s8);refine⟨u,f,z,?_,I⟩;rw[Xb];cases b with
     |true=>
      rw[show R5 w true=true from rfl]at o;simp(decide:=true)only[Xm,Xq,reduceIte,Nat.reduceEqDiff,Nat.reduceLeDiff,ZX,x50_1,q,c,a,Wv,Pj,g,s8,v,y,G,m,t,c3,D];exact o
     |false=>
      by_cases F:w=0
      ·have c4:Pc w (.ofNat 0)=true:=by rw[ei];exact decide_eq_true F
       rw[show R5 w false=false by simp only[R5,Bool.false_or];exact decide_eq_false (fun h=>h F)]at o;simp(decide:=true)only[Xm,Xq,reduceIte,Nat.reduceEqDiff,Nat.reduceLeDiff,ZX,x50_1,q,c,a,Wv,Pj,g,s8,v,y,G,m,t,c3,D,c4];exact o
      ·have c4:Pc w (.ofNat 0)=false:=by rw[ei];exact decide_eq_false F
       rw[show R5 w false=true by simp only[R5,Bool.false_or];exact decide_eq_true F]at o;simp(decide:=true)only[Xm,Xq,reduceIte,Nat.reduceEqDiff,Nat.reduceLeDiff,ZX,x50_1,q,c,a,Wv,Pj,g,s8,v,y,G,m,t,c3,D,c4];exact o
theorem yq {E:Xa}{K:Nat}{l:PL}{o:List (List Int)}(y:SG l o)(C:∀r∈o,r.length=8)(v:o.length<1000000)(B:8<K):∀(d i k:Nat) (s:List Bool) (G:List Xz),i+d=o.length->d<k->s.length=8->
  ∃f j q,Xb E K 0 [3,11,12,13] x50_2 k ⟨[(3,.one (.ptr 0 0 0 0)),(11,.one (.p l)),(12,.one (.p (.int .i64 (.ofNat o.length)))),(13,.one (.p (.int .i64 (.ofNat i))))],Fp s::G⟩=some (f,⟨j,q⟩)/\
   ((f=.exit 0/\N0 (o.drop i) s=true)\/(f=.ret/\N0 (o.drop i) s=false/\Xh j 2=some (.one (.p (.bool false)))))
 |_,_,0,_,_,_,h,_=>by omega
 |0,i,k+1,s,G,hi,_,_=>by
  have a:¬i<o.length:=by omega
  rw[YA (by omega)];refine⟨.exit 0,?_⟩;apply zC
  ·rw[Xb];simp only[Xm,Xq,reduceIte,Nat.reduceEqDiff,x50_2,a];rfl
  ·exact .inl ⟨rfl,rfl⟩
 |d+1,i,k+1,s,G,hi,hk,s8=>by
  have a:i<o.length:=by omega
  have g:=y.len;rw[ZP]at g;obtain⟨r,w⟩:∃r,o[i]? =some r:=⟨_,Zf a⟩;have m:=C r (Zn w);have b:=fun(N:HF) (O:IntKind)=>y.idx (h:=N) (k:=O) (sz:=8) (c:=UE r) (i:=i) (by rw[ZA,w];rfl) (by rw[UL,m])
  have H:Xe .i64 (.ofNat (i+1))=.ofNat (i+1):=wrap_i64 (by omega);have F:o.drop i=r::o.drop (i+1):=by
   obtain⟨M,rfl⟩:=Zb.1 w;exact ZV M
  have D:(UM r).take 8=UM r:=Zd (by rw[Wv];omega);rw[F];simp only[N0];obtain⟨f,j,q,A,I⟩:=yr (E:=E) (K:=K) (l:=l) (n:=o.length) (i:=i) m (G++[⟨false,0,8,[UM r],false,69⟩]) 8 0 K s (by omega) B s8;rcases I with⟨rfl,P,e,x,rfl,Q,R,z,S⟩|⟨rfl,e,z⟩
  ·rw[e];obtain⟨f,u,t,J,L⟩:=yq (E:=E) (K:=K) y C v B d (i+1) k P _ (by omega) (by omega) x;refine⟨f,u,t,?_,L⟩;rw[Xb];simp(decide:=true)only[Xm,Xq,reduceIte,Nat.reduceEqDiff,Nat.reduceLeDiff,Nat.reduceLT,Nat.reduceAdd,x50_2,a,b,QV,Wv,m,D,Qu,Qq,Zk,Zi,Zu,Zq,ZI,ZF,W5,We,Wg,A,Q,R,z,S,H];exact J
  ·rw[e];refine⟨.ret,j,q,?_,.inr ⟨rfl,rfl,z⟩⟩;rw[Xb];simp(decide:=true)only[Xm,Xq,reduceIte,Nat.reduceEqDiff,Nat.reduceLeDiff,Nat.reduceLT,Nat.reduceAdd,x50_2,a,b,QV,Wv,m,D,Qu,Qq,Zk,Zi,Zu,Zq,ZI,ZF,W5,We,Wg,A]
theorem nC {B:Xs}(i:Std B){l:PL}{o:List (List Int)}(g:SG l o)(j:∀r∈o,r.length=8)(d:o.length<1000000):Xx B 50 [.one l] (.one (.bool (TH o))):=by
 have a:=g.len;rw[ZP]at a;refine Xx.of (i.Wa _ _ rfl) ((X1.ge (o.length+10)).mono fun E K s=> ?_);by_cases h:24<o.length
 ·have c:TH o=false:=by simp only[TH,decide_eq_false (show¬o.length<=24 by omega),Bool.false_and]
  rw[c];simp only[Xm,Xq,reduceIte,Nat.reduceEqDiff,Nat.reduceLeDiff,Nat.reduceAdd,x50,a,h]
 ·have c:TH o=N0 o (List.replicate 8 false):=by rw[ph];simp only[TH,decide_eq_true (show o.length<=24 by omega),YF]
  rw[c];obtain⟨q,n,m,b,f⟩:=yq (E:=E) (K:=K) g j d (by omega) o.length 0 K (List.replicate 8 false) [] (by omega) (by omega) (Ys ..);rw[Yb]at f;have t:AE (List.replicate 8 false)=[.p (.bool false),.p (.bool false),.p (.bool false),.p (.bool false),.p (.bool false),.p (.bool false),.p (.bool false),.p (.bool false)]:=rfl;rw[show Fp (List.replicate 8 false)=⟨false,0,8,[[.p (.bool false),.p (.bool false),.p (.bool false),.p (.bool false),.p (.bool false),.p (.bool false),.p (.bool false),.p (.bool false)]],false,130⟩from rfl]at b;rcases f with⟨rfl,e⟩|⟨rfl,e,k⟩
  ·rw[e];simp only[Xm,Xq,reduceIte,Nat.reduceEqDiff,Nat.reduceLeDiff,Nat.reduceAdd,x50,a,h,b]
  ·rw[e];simp only[Xm,Xq,reduceIte,Nat.reduceEqDiff,Nat.reduceLeDiff,Nat.reduceAdd,x50,a,h,b,k]
theorem Fv (a b:Nat):L8 (mm a b):=rfl
theorem zN {r:List Int}(h:r.length=8):∃a b c d e f g i,r=[a,b,c,d,e,f,g,i]:=by
 match r,h with
 |[a,b,c,d,e,f,g,i],_=>exact⟨a,b,c,d,e,f,g,i,rfl⟩
theorem E5:∀(o:List (List Int)),(∀r∈o,r.length=8)->Nu (OT o 0) false=true->WE o (mm 0 0) (mm 1 0)
 |[],_,_=>rfl
 |r::o,h8,h=>by
  obtain⟨a,b,c,d,e,f,g,i,rfl⟩:=zN (h8 r (Ze ..));have e1:wt [a,b,c,d,e,f,g,i] (mm 1 0)=a:=by simp[wt]
  have k:wt [a,b,c,d,e,f,g,i] (mm 0 0)=0:=by simp[wt]
  simp only[OT,Zr,List.getD_cons_zero,Nu,Zs,Yx]at h;have l:¬a<0:=fun m=>by
   have:=h.1;simp only[Sv,decide_eq_true m,YO,YU,Bool.or_true]at this;cases this
  unfold WE;simp only[WC,e1,k];rw[if_neg l];by_cases j:0<a
  ·rw[if_pos j]
  ·rw[if_neg j];have p:R5 a false=false:=by simp only[R5,Bool.false_or];exact decide_eq_false (by omega)
   rw[p]at h;exact E5 o (fun r n=>h8 r (Zc _ n)) h.2
theorem E4:∀(o:List (List Int)),(∀r∈o,r.length=8)->Nu (OT o 1) false=true->WE o (mm 0 0) (mm 0 1)
 |[],_,_=>rfl
 |r::o,h8,h=>by
  obtain⟨a,b,c,d,e,f,g,i,rfl⟩:=zN (h8 r (Ze ..));have e1:wt [a,b,c,d,e,f,g,i] (mm 0 1)=b:=by simp[wt]
  have k:wt [a,b,c,d,e,f,g,i] (mm 0 0)=0:=by simp[wt]
  simp only[OT,Zr,List.getD_cons_succ,List.getD_cons_zero,Nu,Zs,Yx]at h;have l:¬b<0:=fun m=>by
   have:=h.1;simp only[Sv,decide_eq_true m,YO,YU,Bool.or_true]at this;cases this
  unfold WE;simp only[WC,e1,k];rw[if_neg l];by_cases j:0<b
  ·rw[if_pos j]
  ·rw[if_neg j];have p:R5 b false=false:=by simp only[R5,Bool.false_or];exact decide_eq_false (by omega)
   rw[p]at h;exact E4 o (fun r n=>h8 r (Zc _ n)) h.2
theorem uI {o:List (List Int)}(d:∀r∈o,r.length=8)(h:TH o=true):V3 o/\o.length<=24/\WE o (mm 0 0) (mm 1 0)/\WE o (mm 0 0) (mm 0 1):=by
 unfold TH at h;rw[Zs]at h;have e:∀k,k<8->Nu (OT o k) false=true:=by
  have:=h.2;rw[<-ph,kL _ _ (Ys ..)]at this;intro k b;have:=this k b;rw[YN,Yd,if_pos b]at this;exact this
 have i:∀(c:List Int) (s:Bool),Nu c s=true->∀w∈c,-1000<=w/\w<=1000:=by
  intro c;induction c with
  |nil=>intro _ _ _ a;cases a
  |cons x c j=>
   intro s g w a;simp only[Nu,Zs,Yx,Sv,Bool.or_eq_false_iff,decide_eq_false_iff_not]at g;rcases Zj.1 a with rfl|a
   ·omega
   ·exact j _ g.2 w a
 refine⟨fun r f=>⟨d r f,fun w a=> ?_⟩,of_decide_eq_true h.1,E5 o d (e 0 (by decide)),E4 o d (e 1 (by decide))⟩;obtain⟨k,b,rfl⟩:=List.getElem_of_mem a;refine i _ _ (e k (by rw[<-d r f];exact b)) _ ?_;unfold OT;refine ZQ.2 ⟨r,f,?_⟩;rw[YN,Zf b];rfl
def Et:List Nat:=[16,8,16,1000,1000,1000,1000,1000]
def Es:List Nat:=[8,16,16,1000,1000,1000,1000,1000]
theorem Rl {a b:Nat}(h:a+b<=2):(a=0/\b=0)\/(a=1/\b=0)\/(a=0/\b=1)\/(a=2/\b=0)\/(a=1/\b=1)\/(a=0/\b=2):=by omega
theorem Dk {o:List (List Int)}(p:WE o (mm 0 0) (mm 1 0))(u:WE o (mm 0 0) (mm 0 1)):
  ∃w,(w=Et\/w=Es\/w=Eu)/\∀m n,AH 2 m->AH 2 n->WE o m n->WT w m<=WT w n:=by
 have q:WE o (mm 1 0) (mm 2 0):=WE.add (k:=mm 1 0) rfl rfl rfl p;have y:WE o (mm 1 0) (mm 1 1):=WE.add (k:=mm 1 0) rfl rfl rfl u;have B:WE o (mm 0 1) (mm 1 1):=WE.add (k:=mm 0 1) rfl rfl rfl p;have r:WE o (mm 0 1) (mm 0 2):=WE.add (k:=mm 0 1) rfl rfl rfl u;have i:∀{a b c d e f:Nat},WE o (mm a b) (mm c d)->WE o (mm c d) (mm e f)->WE o (mm a b) (mm e f):=fun h k=>WE.trans rfl rfl rfl h k
 have E:=i p q;have F:=i p y;have G:=i u r;have j:∀{a b c d:Nat},WE o (mm a b) (mm c d)->WE o (mm c d) (mm a b)->False:=fun h k=>WE.asymm rfl rfl h k
 by_cases v:WE o (mm 0 2) (mm 1 0)
 ·have l:=i r v;have s:WE o (mm 0 2) (mm 1 1):=WE.add (k:=mm 0 1) rfl rfl rfl l;have t:WE o (mm 1 1) (mm 2 0):=WE.add (k:=mm 1 0) rfl rfl rfl l;have z:=i l q;have A:=i s t;refine⟨Et,.inl rfl,?_⟩;rintro m n ⟨a,b,rfl,h⟩ ⟨c,d,rfl,k⟩ g;rcases Rl h with⟨rfl,rfl⟩|⟨rfl,rfl⟩|⟨rfl,rfl⟩|⟨rfl,rfl⟩|⟨rfl,rfl⟩|⟨rfl,rfl⟩<;>
  rcases Rl k with⟨rfl,rfl⟩|⟨rfl,rfl⟩|⟨rfl,rfl⟩|⟨rfl,rfl⟩|⟨rfl,rfl⟩|⟨rfl,rfl⟩<;>
  first |(exact(by decide))|(exact(j g (by assumption)).elim)
 ·by_cases x:WE o (mm 2 0) (mm 0 1)
  ·have l:=i q x;have s:WE o (mm 2 0) (mm 1 1):=WE.add (k:=mm 1 0) rfl rfl rfl l;have t:WE o (mm 1 1) (mm 0 2):=WE.add (k:=mm 0 1) rfl rfl rfl l;have z:=i l r;have A:=i s t;refine⟨Es,.inr (.inl rfl),?_⟩;rintro m n ⟨a,b,rfl,h⟩ ⟨c,d,rfl,k⟩ g;rcases Rl h with⟨rfl,rfl⟩|⟨rfl,rfl⟩|⟨rfl,rfl⟩|⟨rfl,rfl⟩|⟨rfl,rfl⟩|⟨rfl,rfl⟩<;>
   rcases Rl k with⟨rfl,rfl⟩|⟨rfl,rfl⟩|⟨rfl,rfl⟩|⟨rfl,rfl⟩|⟨rfl,rfl⟩|⟨rfl,rfl⟩<;>
   first |(exact(by decide))|(exact(j g (by assumption)).elim)
  ·have C:WE o (mm 1 0) (mm 0 2):=by
    rcases WE.CQ o (Fv 0 2) (Fv 1 0)with h|h|h
    ·exact(v h).elim
    ·cases h
    ·exact h
   have D:WE o (mm 0 1) (mm 2 0):=by
    rcases WE.CQ o (Fv 2 0) (Fv 0 1)with h|h|h
    ·exact(x h).elim
    ·cases h
    ·exact h
   refine⟨Eu,.inr (.inr rfl),?_⟩;rintro m n ⟨a,b,rfl,h⟩ ⟨c,d,rfl,k⟩ g;rcases Rl h with⟨rfl,rfl⟩|⟨rfl,rfl⟩|⟨rfl,rfl⟩|⟨rfl,rfl⟩|⟨rfl,rfl⟩|⟨rfl,rfl⟩<;>
   rcases Rl k with⟨rfl,rfl⟩|⟨rfl,rfl⟩|⟨rfl,rfl⟩|⟨rfl,rfl⟩|⟨rfl,rfl⟩|⟨rfl,rfl⟩<;>
   first |(exact(by decide))|(exact(j g (by assumption)).elim)
theorem vF {o:List (List Int)}(i:V3 o)(t:o.length<=24){w:List Nat}(q:w=Et\/w=Es\/w=Eu)(r:∀m n,AH 2 m->AH 2 n->WE o m n->WT w m<=WT w n){g:List (List Qm)}(j:∀f∈g,∀u∈f,AH 2 u.2):On o w g:=by
 have e:∀f∈g,∀u∈f,∀s∈f,WE o u.2 s.2->WT w u.2<=WT w s.2:=fun f k u p s l=>r _ _ (j f k u p) (j f k s l)
 rcases q with rfl|rfl|rfl
 ·exact⟨i,by omega,rfl,by decide,e,by rintro d m ⟨a,b,c,rfl,h⟩;simp only[Et,WT];omega,by decide⟩
 ·exact⟨i,by omega,rfl,by decide,e,by rintro d m ⟨a,b,c,rfl,h⟩;simp only[Es,WT];omega,by decide⟩
 ·exact⟨i,by omega,rfl,by decide,e,by rintro d m ⟨a,b,c,rfl,h⟩;simp only[Eu,WT];omega,by decide⟩
end Go.Proofs.YtidginchkjhobaaGreat
