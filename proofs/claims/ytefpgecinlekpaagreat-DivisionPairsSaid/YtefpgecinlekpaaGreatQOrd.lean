/- Orders of monomials: Cmp, in the program and the reference. -/
import Derived.Test.YtefpgecinlekpaaGreatMon
set_option maxHeartbeats 16000000
set_option maxRecDepth 100000
namespace Go.Num
def wt:List Int->List Nat->Int
 |r::rs,e::es=>r*(e:Int)+wt rs es
 |_,_=>0
def X9:List (List Int)->List Nat->List Nat->Int
 |[],m,n=>XS m n
 |r::o,m,n=>if wt r m<wt r n then .negSucc 0 else if wt r n<wt r m then .ofNat 1 else X9 o m n
theorem cmpO_self:∀(o:List (List Int)) (m:List Nat),X9 o m m=.ofNat 0
 |[],m=>Tw m
 |r::o,m=>by simp only[X9,Int.lt_irrefl,if_false];exact cmpO_self o m
def Row8 (r:List Int):Prop:=r.length=8/\∀w∈r,-1000<=w/\w<=1000
def V9 (o:List (List Int)):Prop:=∀r∈o,Row8 r
theorem mul_bd {w:Int}{e:Int}{W X:Int}(h1: -W<=w)(h2:w<=W)(h3: -X<=e)(h4:e<=X)(hW:0<=W)(hX:0<=X): -(W*X)<=w*e/\w*e<=W*X:=by
 have a1:w.natAbs<=W.natAbs:=by omega
 have a2:e.natAbs<=X.natAbs:=by omega
 have:=YD a1 a2
 rw[<-Yj,<-Yj]at this
 have h:0<=W*X:=Int.mul_nonneg hW hX
 omega
end Go.Num
namespace Go.Proofs.YtefpgecinlekpaaGreat
open Go.Ev Go.Num
theorem wrap_i {z:Int}(h1: -9223372036854775808<=z)(h2:z<9223372036854775808):Xd .i64 z=z:=by
 cases z with
 |ofNat n=>exact wrap_i64 (by simp only[Zv]at h2;omega)
 |negSucc n=>
  show Vt .i64 (X4 .i64 (.negSucc n))=_
  have hn:n<9223372036854775808:=by omega
  have e:X4 .i64 (.negSucc n)=18446744073709551615-n:=by
   show(18446744073709551616-1)-n%18446744073709551616=_
   rw[Zb (by omega)]
  rw[e]
  show(bif true&&Nat.ble (18446744073709551616 / 2) (18446744073709551615-n)then Int.negSucc (18446744073709551616-(18446744073709551615-n)-1)else _)=_
  have h:Nat.ble (18446744073709551616 / 2) (18446744073709551615-n)=true:=T7 (by omega)
  rw[h,Bool.and_self,cond_true]
  congr 1;omega
theorem V3 (x y:Int):ltF x y=decide (x<y):=by
 cases x with
 |ofNat a=>cases y with
  |ofNat b=>rw[ltF_nn];congr 1;simp
  |negSucc b=>show false=_;rw[decide_eq_false (by simp only[Zv];omega)]
 |negSucc a=>cases y with
  |ofNat b=>show true=_;rw[decide_eq_true (by simp only[Zv];omega)]
  |negSucc b=>
   show Nat.blt b a=_
   rw[blt_dec];congr 1;simp only[eq_iff_iff];omega
def VF (r:List Int):List PL:=r.map fun z=>.int .i64 z
def Ul (r:List Int):List DL:=r.map fun z=>.p (.int .i64 z)
theorem rowP_D (r:List Int):(VF r).map DL.p=Ul r:=by simp[VF,Ul]
theorem Vd (r:List Int):(Ul r).length=r.length:=by simp[Ul]
theorem rowP_len (r:List Int):(VF r).length=r.length:=by simp[VF]
theorem rowD_drop {r:List Int}{i:Nat}{w:Int}(h:r[i]? =some w):(Ul r).drop i=.p (.int .i64 w)::Ul (r.drop (i+1)):=by
 obtain⟨h1,rfl⟩:=Ze.1 h
 rw[Ul,<-List.map_drop,ZZ h1];rfl
theorem frz_rowD (n:Nat)(h:HF):∀(r:List Int),Xm (Xo n h) (Ul r)=some (VF r)
 |[]=>rfl
 |e::r=>by
  have:=frz_rowD n h r
  simp only[Ul,VF]at this
  simp only[Ul,VF,Zu,Xm,frzL0,this]
theorem ids_rowD (n:Nat)(h:HF):∀(r:List Int),(Ul r).flatMap (Wk n h)=[]
 |[]=>rfl
 |e::r=>by
  have:=ids_rowD n h r
  simp only[Ul]at this
  simp only[Ul,Zu,Ym,idsL0,this,ZR]
def IsO (l:PL)(o:List (List Int)):Prop:=Sl l (o.map VF)
theorem drop_getI {r:List Int}{i:Nat}{w:Int}(h:r[i]? =some w):r.drop i=w::r.drop (i+1):=by
 obtain⟨h1,rfl⟩:=Ze.1 h
 exact ZZ h1
theorem weight_loop {E:Oracle}{K:Nat}{r:List Int}{m:List Nat}(hr:Row8 r)(hm:Xx m)(t u:Nat){M:Int}(hM:M=65535000):∀(d i k:Nat) (acc:Int),i+d=8->d<k->-((i:Int)*M)<=acc->acc<=(i:Int)*M->
  ∃T',Xc E K 0 [2,3,5,6] x76_1 k ⟨[(2,.one (.ptr 0 0 0 0)),(3,.one (.ptr 1 0 0 0)),(5,.one (.p (.int .i64 acc))),(6,.one (.p (.int .i64 (.ofNat i))))],[⟨false,0,8,[Ul r],false,t⟩,⟨false,0,8,[moD m],false,u⟩]⟩=some (.exit 0,⟨T',[⟨false,0,8,[Ul r],false,t⟩,⟨false,0,8,[moD m],false,u⟩]⟩)/\Xh T' 5=some (.one (.p (.int .i64 (acc+wt (r.drop i) (m.drop i)))))
 |_,_,0,_,_,h,_,_=>by omega
 |0,i,k+1,acc,hi,_,_,_=>by
  obtain rfl:i=8:=by omega
  rw[YL (by rw[hr.1];omega),show wt [] (m.drop 8)=0 from rfl,Int.add_zero]
  apply ex1
  ·rw[Xc]
   simp only[EVS,EVN,reduceIte,Nat.reduceEqDiff,x76_1,ZA]
   rfl
  ·simp only[EVS,reduceIte,Nat.reduceEqDiff]
 |d+1,i,k+1,acc,hi,hk,h1,h2=>by
  obtain⟨w,hw⟩:∃w,r[i]? =some w:=⟨_,Zf (by rw[hr.1];omega)⟩
  obtain⟨e,he⟩:∃e,m[i]? =some e:=⟨_,Zf (by rw[hm.1];omega)⟩
  have bw:=hr.2 w (ZE hw)
  have be:=hm.2 e (ZE he)
  obtain⟨b1,b2⟩:=mul_bd (w:=w) (e:=(e:Int)) (W:=1000) (X:=65535) bw.1 bw.2 (by omega) (by omega) (by decide) (by decide)
  have hi8:i<8:=by omega
  have hi8':i<=8:=by omega
  have f1:Xd .i64 (.ofNat (i+1))=.ofNat (i+1):=wrap_i64 (by omega)
  have hb1: -(((i+1:Nat):Int)*M)<=acc+w*Int.ofNat e:=by
   rw[Int.natCast_add,Int.add_mul];simp only[Zv];omega
  have hb2:acc+w*Int.ofNat e<=((i+1:Nat):Int)*M:=by
   rw[Int.natCast_add,Int.add_mul];simp only[Zv];omega
  have him:(i:Int)*M<=8*M:=Int.mul_le_mul_of_nonneg_right (by omega) (by omega)
  have f2:Xd .i64 (w*Int.ofNat e)=w*Int.ofNat e:=wrap_i (by simp only[Zv];omega) (by simp only[Zv];omega)
  have f3:Xd .i64 (acc+w*Int.ofNat e)=acc+w*Int.ofNat e:=wrap_i (by simp only[Zv];omega) (by simp only[Zv];omega)
  obtain⟨T',g1,g2⟩:=weight_loop (E:=E) (K:=K) hr hm t u hM d (i+1) k (acc+w*Int.ofNat e) (by omega) (by omega) hb1 hb2
  rw[drop_getI hw,TL he]
  refine⟨T',?_,by rw[g2];simp only[wt,Zv];rw[Int.add_assoc]⟩
  have q1:=rowD_drop hw
  have q2:=Wd he
  have r8:=hr.1
  have m8:=hm.1
  rw[Xc]
  simp only[EVS,EVN,reduceIte,Nat.reduceEqDiff,Yd,x76_1,hi8,hi8',f1,f2,f3,q1,q2,Vd,Xa,r8,m8]
  exact g1
theorem weight_ret {B:Base}(hB:Std B){r:List Int}{m:List Nat}(hr:Row8 r)(hm:Xx m):Ret B 76 [.agg (VF r),.agg (mo m)] (.one (.int .i64 (wt r m))):=by
 refine Ret.of (hB.tab _ _ rfl) ((Evt.ge 9).mono fun E K hK=> ?_)
 obtain⟨T',g1,g2⟩:=weight_loop (E:=E) (K:=K) hr hm 50 51 rfl 8 0 K 0 (by omega) (by omega) (by simp) (by simp)
 rw[Yh,Yh,Int.zero_add]at g2
 have r8:=hr.1
 have m8:=hm.1
 rw[show(0:Int)=Int.ofNat 0 from rfl]at g1
 simp only[EVS,EVN,reduceIte,Nat.reduceEqDiff,Nat.reduceLeDiff,Nat.reduceAdd,x76,XZ,Xa,rowP_D,Vd,r8,m8,g1,g2]
theorem rcmpO_loop {E:Oracle}{K:Nat}{l:PL}{o:List (List Int)}{m n:List Nat}(hmd:E.mode=md)(sl:IsO l o)(ho:V9 o)(hm:Xx m)(hn:Xx n)(hol:o.length<1000000)(u:Nat)
  (hw1:∀r∈o,E.pure 76 [.agg (VF r),.agg (mo m)]=some (.one (.int .i64 (wt r m)))) (hw2:∀r∈o,E.pure 76 [.agg (VF r),.agg (mo n)]=some (.one (.int .i64 (wt r n)))):∀(d i k:Nat),i+d=o.length->d<k->
  ∃ex T',Xc E K 0 [0,4,5,7] x31_1 k ⟨[(0,.one (.p l)),(4,.one (.ptr 0 0 0 0)),(5,.one (.ptr 1 0 0 0)),(7,.one (.p (.int .i64 (.ofNat i))))],[⟨false,0,8,[moD m],false,u⟩,⟨false,0,8,[moD n],false,u⟩]⟩=some (ex,⟨T',[⟨false,0,8,[moD m],false,u⟩,⟨false,0,8,[moD n],false,u⟩]⟩)/\
   ((ex=.exit 0/\X9 (o.drop i) m n=XS m n/\Xh T' 4=some (.one (.ptr 0 0 0 0))/\Xh T' 5=some (.one (.ptr 1 0 0 0)))\/(ex=.ret/\Xh T' 6=some (.one (.p (.int .i64 (X9 (o.drop i) m n))))))
 |_,_,0,_,h=>by omega
 |0,i,k+1,hi,_=>by
  have hlt:¬i<o.length:=by omega
  have hlen:=sl.len
  rw[Yi]at hlen
  refine⟨.exit 0,?_⟩
  rw[YL (by omega)]
  apply ex1
  ·rw[Xc]
   simp only[EVS,EVN,reduceIte,Nat.reduceEqDiff,x31_1,hlen,hlt]
   rfl
  ·exact .inl ⟨rfl,rfl,by simp only[EVS,reduceIte,Nat.reduceEqDiff],by simp only[EVS,reduceIte,Nat.reduceEqDiff]⟩
 |d+1,i,k+1,hi,hk=>by
  have hlt:i<o.length:=by omega
  have hlen:=sl.len
  rw[Yi]at hlen
  obtain⟨r,hr⟩:∃r,o[i]? =some r:=⟨_,Zf hlt⟩
  have hmem:=ZE hr
  have r8:=(ho r hmem).1
  have m8:=hm.1
  have n8:=hn.1
  have hidx:=fun(hh:HF) (kd:IntKind)=>sl.idx (h:=hh) (k:=kd) (sz:=8) (c:=VF r) (i:=i) (by rw[Zz,hr];rfl) (by rw[rowP_len,r8])
  have w1:=hw1 r hmem
  have w2:=hw2 r hmem
  have f1:Xd .i64 (.ofNat (i+1))=.ofNat (i+1):=wrap_i64 (by omega)
  have ed:o.drop i=r::o.drop (i+1):=by
   obtain⟨h1,rfl⟩:=Ze.1 hr
   exact ZZ h1
  have t1:(moD m).take 8=moD m:=Zd (by rw[Xa];omega)
  have t2:(moD n).take 8=moD n:=Zd (by rw[Xa];omega)
  have t3:(Ul r).take 8=Ul r:=Zd (by rw[Vd];omega)
  rw[ed]
  simp only[X9]
  by_cases h1:wt r m<wt r n
  ·rw[if_pos h1]
   have c1:ltF (wt r m) (wt r n)=true:=by rw[V3,decide_eq_true h1]
   refine⟨.ret,?_⟩
   apply ex1
   ·rw[Xc]
    simp only[EVS,EVN,reduceIte,Nat.reduceEqDiff,Nat.reduceLeDiff,x31_1,hlen,hlt,hidx,Xa,rowP_D,Vd,r8,m8,n8,t1,t2,t3,TK,TH,frz_rowD,ids_rowD,hmd,MDS,w1,w2,c1]
    rfl
   ·exact .inr ⟨rfl,by simp only[EVS,reduceIte,Nat.reduceEqDiff]⟩
  ·rw[if_neg h1]
   have c1:ltF (wt r m) (wt r n)=false:=by rw[V3,decide_eq_false h1]
   by_cases h2:wt r n<wt r m
   ·rw[if_pos h2]
    have c2:ltF (wt r n) (wt r m)=true:=by rw[V3,decide_eq_true h2]
    refine⟨.ret,?_⟩
    apply ex1
    ·rw[Xc]
     simp only[EVS,EVN,reduceIte,Nat.reduceEqDiff,Nat.reduceLeDiff,x31_1,hlen,hlt,hidx,Xa,rowP_D,Vd,r8,m8,n8,t1,t2,t3,TK,TH,frz_rowD,ids_rowD,hmd,MDS,w1,w2,c1,c2]
     rfl
    ·exact .inr ⟨rfl,by simp only[EVS,reduceIte,Nat.reduceEqDiff]⟩
   ·rw[if_neg h2]
    have c2:ltF (wt r n) (wt r m)=false:=by rw[V3,decide_eq_false h2]
    obtain⟨ex,T',g1,g2⟩:=rcmpO_loop (K:=K) hmd sl ho hm hn hol u hw1 hw2 d (i+1) k (by omega) (by omega)
    refine⟨ex,T',?_,g2⟩
    rw[Xc]
    simp only[EVS,EVN,reduceIte,Nat.reduceEqDiff,Nat.reduceLeDiff,x31_1,hlen,hlt,hidx,Xa,rowP_D,Vd,r8,m8,n8,t1,t2,t3,TK,TH,frz_rowD,ids_rowD,hmd,MDS,w1,w2,c1,c2,f1]
    exact g1
theorem Tb {B:Base}{α:Type}{p:α->Oracle->Nat->Prop}:∀{l:List α},(∀x∈l,Evt B (p x))->Evt B fun E K=>∀x∈l,p x E K
 |[],_=>Evt.of fun _ _ _ h=>by cases h
 |a::l,h=>((h a (Zh ..)).and (Tb fun x hx=>h x (Zc _ hx))).mono fun E K ⟨h1,h2⟩ x hx=>by
  rcases Zj.1 hx with rfl|hx
  ·exact h1
  ·exact h2 x hx
theorem rcmpO_ret {B:Base}(hB:Std B){l:PL}{o:List (List Int)}{m n:List Nat}(sl:IsO l o)(ho:V9 o)(hm:Xx m)(hn:Xx n)(hol:o.length<1000000):Ret B 31 [.one l,.agg (mo m),.agg (mo n)] (.one (.int .i64 (X9 o m n))):=by
 have hw1:Evt B fun E _=>∀r∈o,E.pure 76 [.agg (VF r),.agg (mo m)]=some (.one (.int .i64 (wt r m))):=Tb fun r hr=>(weight_ret hB (ho r hr) hm).evt
 have hw2:Evt B fun E _=>∀r∈o,E.pure 76 [.agg (VF r),.agg (mo n)]=some (.one (.int .i64 (wt r n))):=Tb fun r hr=>(weight_ret hB (ho r hr) hn).evt
 have hc:=SR hB hm.1 hn.1
 refine Ret.of (hB.tab _ _ rfl) ((hw1.and (hw2.and (hc.evt.and (hB.evt.and (Evt.ge (o.length+1)))))).mono fun E K ⟨e1,e2,e3,hmd,hK⟩=> ?_)
 obtain⟨ex,T',g1,g2⟩:=rcmpO_loop (K:=K) hmd sl ho hm hn hol 51 e1 e2 o.length 0 K (by omega) (by omega)
 rw[Yh]at g2
 have m8:=hm.1
 have n8:=hn.1
 have t1:(moD m).take 8=moD m:=Zd (by rw[Xa];omega)
 have t2:(moD n).take 8=moD n:=Zd (by rw[Xa];omega)
 rcases g2 with⟨rfl,g2,g3,g4⟩|⟨rfl,g2⟩
 ·rw[g2]
  simp only[EVS,EVN,reduceIte,Nat.reduceEqDiff,Nat.reduceLeDiff,Nat.reduceAdd,x31,XZ,Xa,m8,n8,t1,t2,TK,TH,hmd,MDS,g1,g3,g4,e3]
 ·simp only[EVS,EVN,reduceIte,Nat.reduceEqDiff,Nat.reduceLeDiff,Nat.reduceAdd,x31,XZ,Xa,m8,n8,g1,g2]
end Go.Proofs.YtefpgecinlekpaaGreat
namespace Go.Num
def wtd:List Int->List Nat->List Nat->Int
 |r::rs,a::as,b::bs=>r*((a:Int)-(b:Int))+wtd rs as bs
 |_,_,_=>0
theorem wtd_eq:∀{r:List Int} {m n:List Nat},r.length=m.length->m.length=n.length->wtd r m n=wt r m-wt r n
 |[],[],[],_,_=>rfl
 |[],_::_,_,h,_=>by simp at h
 |_::_,[],_,h,_=>by simp at h
 |_,[],_::_,_,h=>by simp at h
 |_,_::_,[],_,h=>by simp at h
 |w::r,a::m,b::n,h1,h2=>by
  have ih:=wtd_eq (r:=r) (m:=m) (n:=n) (by simpa using h1) (by simpa using h2)
  simp only[wtd,wt,ih,Int.mul_sub];omega
end Go.Num
namespace Go.Proofs.YtefpgecinlekpaaGreat
open Go.Ev Go.Num
def wKeep (l:PL)(len i:Nat)(acc:Int)(r:List Int)(j:Nat):List (Nat×DV):=[(4,.one (.ptr 0 0 0 0)),(5,.one (.ptr 1 0 0 0)),(9,.one (.p (.int .i64 acc))),(15,.one (.p l)),(16,.one (.p (.int .i64 (.ofNat len)))),(17,.one (.p (.int .i64 (.ofNat i)))),(21,.agg (Ul r)),(22,.one (.p (.int .i64 (.ofNat j))))]
theorem pweight_loop {E:Oracle}{K:Nat}{l:PL}{len ii:Nat}{r:List Int}{m n:List Nat}(hr:Row8 r)(hm:Xx m)(hn:Xx n){M:Int}(hM:M=65535000)(u:Nat)(G:List Blk):∀(d i k:Nat) (acc:Int),i+d=8->d<k->-((i:Int)*M)<=acc->acc<=(i:Int)*M->
  ∃T',Xc E K 0 [4,5,9,15,16,17,21,22] x60_1 k ⟨wKeep l len ii acc r i,⟨false,0,8,[moD m],false,u⟩::⟨false,0,8,[moD n],false,u⟩::G⟩=some (.exit 2,⟨T',⟨false,0,8,[moD m],false,u⟩::⟨false,0,8,[moD n],false,u⟩::G⟩)/\(Xh T' 4=some (.one (.ptr 0 0 0 0))/\Xh T' 5=some (.one (.ptr 1 0 0 0))/\Xh T' 9=some (.one (.p (.int .i64 (acc+wtd (r.drop i) (m.drop i) (n.drop i)))))/\Xh T' 15=some (.one (.p l))/\Xh T' 16=some (.one (.p (.int .i64 (.ofNat len))))/\Xh T' 17=some (.one (.p (.int .i64 (.ofNat ii)))))
 |_,_,0,_,_,h,_,_=>by omega
 |0,i,k+1,acc,hi,_,_,_=>by
  obtain rfl:i=8:=by omega
  rw[YL (by rw[hr.1];omega),show wtd [] (m.drop 8) (n.drop 8)=0 from rfl,Int.add_zero]
  unfold wKeep
  apply ex1
  ·rw[Xc]
   simp only[EVS,EVN,reduceIte,Nat.reduceEqDiff,x60_1,ZA]
   rfl
  ·simp only[EVS,reduceIte,Nat.reduceEqDiff,and_self]
 |d+1,i,k+1,acc,hi,hk,h1,h2=>by
  obtain⟨w,hw⟩:∃w,r[i]? =some w:=⟨_,Zf (by rw[hr.1];omega)⟩
  obtain⟨e,he⟩:∃e,m[i]? =some e:=⟨_,Zf (by rw[hm.1];omega)⟩
  obtain⟨f,hf⟩:∃f,n[i]? =some f:=⟨_,Zf (by rw[hn.1];omega)⟩
  have bw:=hr.2 w (ZE hw)
  have be:=hm.2 e (ZE he)
  have bf:=hn.2 f (ZE hf)
  obtain⟨b1,b2⟩:=mul_bd (w:=w) (e:=(e:Int)-(f:Int)) (W:=1000) (X:=65535) bw.1 bw.2 (by omega) (by omega) (by decide) (by decide)
  have hi8:i<8:=by omega
  have hi8':i<=8:=by omega
  have f1:Xd .i64 (.ofNat (i+1))=.ofNat (i+1):=wrap_i64 (by omega)
  have hb1: -(((i+1:Nat):Int)*M)<=acc+w*(Int.ofNat e-Int.ofNat f):=by
   rw[Int.natCast_add,Int.add_mul];simp only[Zv];omega
  have hb2:acc+w*(Int.ofNat e-Int.ofNat f)<=((i+1:Nat):Int)*M:=by
   rw[Int.natCast_add,Int.add_mul];simp only[Zv];omega
  have him:(i:Int)*M<=8*M:=Int.mul_le_mul_of_nonneg_right (by omega) (by omega)
  have f0:Xd .i64 (Int.ofNat e-Int.ofNat f)=Int.ofNat e-Int.ofNat f:=wrap_i (by simp only[Zv];omega) (by simp only[Zv];omega)
  have f2:Xd .i64 (w*(Int.ofNat e-Int.ofNat f))=w*(Int.ofNat e-Int.ofNat f):=wrap_i (by simp only[Zv];omega) (by simp only[Zv];omega)
  have f3:Xd .i64 (acc+w*(Int.ofNat e-Int.ofNat f))=acc+w*(Int.ofNat e-Int.ofNat f):=wrap_i (by simp only[Zv];omega) (by simp only[Zv];omega)
  obtain⟨T',g1,g2,g2',g3,g4⟩:=pweight_loop (E:=E) (K:=K) (l:=l) (len:=len) (ii:=ii) hr hm hn hM u G d (i+1) k (acc+w*(Int.ofNat e-Int.ofNat f)) (by omega) (by omega) hb1 hb2
  rw[drop_getI hw,TL he,TL hf]
  refine⟨T',?_,g2,g2',by rw[g3];simp only[wtd,Zv];rw[Int.add_assoc],g4⟩
  have q1:=rowD_drop hw
  have q2:=Wd he
  have q3:=Wd hf
  have r8:=hr.1
  have m8:=hm.1
  have n8:=hn.1
  have q4:∀k',Up 8 false 1 [.agg (Ul r),.one (.p (.int k' (.ofNat i)))]=some ⟨.one (.p (.int .i64 w)),[],[],[]⟩:=by
   intro k'
   simp only[Up,Yd,blt_t hi8,T7 (show i<=(Ul r).length by rw[Vd,r8];omega),Bool.and_self,cond_true,q1,Uc,cond_false,Res.pure]
  unfold wKeep at g1⊢
  rw[Xc]
  simp only[EVS,EVN,reduceIte,Nat.reduceEqDiff,Yd,x60_1,hi8,hi8',f0,f1,f2,f3,q2,q3,q4,Xa,m8,n8]
  exact g1
theorem pcmpO_loop {E:Oracle}{K:Nat}{l:PL}{o:List (List Int)}{m n:List Nat}(sl:IsO l o)(ho:V9 o)(hm:Xx m)(hn:Xx n)(hol:o.length<1000000)(hK:9<=K)(u:Nat):∀(d i k:Nat) (G:List Blk),i+d=o.length->d<k->
  ∃ex T' G',Xc E K 0 [4,5,15,16,17] x60_2 k ⟨[(4,.one (.ptr 0 0 0 0)),(5,.one (.ptr 1 0 0 0)),(15,.one (.p l)),(16,.one (.p (.int .i64 (.ofNat o.length)))),(17,.one (.p (.int .i64 (.ofNat i))))],⟨false,0,8,[moD m],false,u⟩::⟨false,0,8,[moD n],false,u⟩::G⟩=some (ex,⟨T',⟨false,0,8,[moD m],false,u⟩::⟨false,0,8,[moD n],false,u⟩::G'⟩)/\
   ((ex=.exit 0/\X9 (o.drop i) m n=XS m n/\Xh T' 4=some (.one (.ptr 0 0 0 0))/\Xh T' 5=some (.one (.ptr 1 0 0 0)))\/(ex=.ret/\Xh T' 6=some (.one (.p (.int .i64 (X9 (o.drop i) m n))))))
 |_,_,0,_,_,h=>by omega
 |0,i,k+1,G,hi,_=>by
  have hlt:¬i<o.length:=by omega
  rw[YL (by omega)]
  have :∃T',Xc E K 0 [4,5,15,16,17] x60_2 (k+1) ⟨[(4,.one (.ptr 0 0 0 0)),(5,.one (.ptr 1 0 0 0)),(15,.one (.p l)),(16,.one (.p (.int .i64 (.ofNat o.length)))),(17,.one (.p (.int .i64 (.ofNat i))))],⟨false,0,8,[moD m],false,u⟩::⟨false,0,8,[moD n],false,u⟩::G⟩=some (.exit 0,⟨T',⟨false,0,8,[moD m],false,u⟩::⟨false,0,8,[moD n],false,u⟩::G⟩)/\Xh T' 4=some (.one (.ptr 0 0 0 0))/\Xh T' 5=some (.one (.ptr 1 0 0 0)):=by
   apply ex1
   ·rw[Xc]
    simp only[EVS,EVN,reduceIte,Nat.reduceEqDiff,x60_2,hlt]
    rfl
   ·simp only[EVS,reduceIte,Nat.reduceEqDiff,and_self]
  obtain⟨T',g1,g2,g3⟩:=this
  exact⟨.exit 0,T',G,g1,.inl ⟨rfl,rfl,g2,g3⟩⟩
 |d+1,i,k+1,G,hi,hk=>by
  have hlt:i<o.length:=by omega
  obtain⟨r,hr⟩:∃r,o[i]? =some r:=⟨_,Zf hlt⟩
  have hmem:=ZE hr
  have h8:=ho r hmem
  have r8:=h8.1
  have m8:=hm.1
  have n8:=hn.1
  have hidx:=fun(hh:HF) (kd:IntKind)=>sl.idx (h:=hh) (k:=kd) (sz:=8) (c:=VF r) (i:=i) (by rw[Zz,hr];rfl) (by rw[rowP_len,r8])
  have f1:Xd .i64 (.ofNat (i+1))=.ofNat (i+1):=wrap_i64 (by omega)
  have ed:o.drop i=r::o.drop (i+1):=by
   obtain⟨h1,rfl⟩:=Ze.1 hr
   exact ZZ h1
  have t3:(Ul r).take 8=Ul r:=Zd (by rw[Vd];omega)
  have t4:(Ul r).drop 8=[]:=Zp (by rw[Vd];omega)
  obtain⟨T1,q1,q2,q2',q3,q4,q5,q6⟩:=pweight_loop (E:=E) (K:=K) (l:=l) (len:=o.length) (ii:=i) h8 hm hn (M:=65535000) rfl u (G++[⟨false,0,8,[Ul r],false,50⟩]) 8 0 K 0 (by omega) (by omega) (by simp) (by simp)
  rw[Yh,Yh,Yh,Int.zero_add,wtd_eq (by rw[r8,m8]) (by rw[m8,n8])]at q3
  unfold wKeep at q1
  rw[show(0:Int)=Int.ofNat 0 from rfl]at q1
  have w0:Sa (Ul r)=true:=by
   have :∀r:List Int,Sa (Ul r)=true:=by
    intro r
    induction r with
    |nil=>rfl
    |cons a r ih=>exact ih
   exact this r
  rw[ed]
  simp only[X9]
  by_cases h1:wt r m<wt r n
  ·rw[if_pos h1]
   have c1:ltF (wt r m-wt r n) (.ofNat 0)=true:=by rw[V3,decide_eq_true];simp only[Zv];omega
   have :∃T',Xc E K 0 [4,5,15,16,17] x60_2 (k+1) ⟨[(4,.one (.ptr 0 0 0 0)),(5,.one (.ptr 1 0 0 0)),(15,.one (.p l)),(16,.one (.p (.int .i64 (.ofNat o.length)))),(17,.one (.p (.int .i64 (.ofNat i))))],⟨false,0,8,[moD m],false,u⟩::⟨false,0,8,[moD n],false,u⟩::G⟩=some (.ret,⟨T',⟨false,0,8,[moD m],false,u⟩::⟨false,0,8,[moD n],false,u⟩::(G++[⟨false,0,8,[Ul r],false,50⟩])⟩)/\Xh T' 6=some (.one (.p (.int .i64 (.negSucc 0)))):=by
    apply ex1
    ·rw[Xc]
     simp only[EVS,EVN,EVF,reduceIte,Nat.reduceEqDiff,Nat.reduceLeDiff,Nat.reduceAdd,x60_2,hlt,hidx,rowP_D,Vd,r8,t3,w0,q1,q2,q2',q3,q4,q5,q6,c1]
     rfl
    ·simp only[EVS,reduceIte,Nat.reduceEqDiff]
   obtain⟨T',g1,g2⟩:=this
   exact⟨.ret,T',_,g1,.inr ⟨rfl,g2⟩⟩
  ·rw[if_neg h1]
   have c1:ltF (wt r m-wt r n) (.ofNat 0)=false:=by rw[V3,decide_eq_false];simp only[Zv];omega
   by_cases h2:wt r n<wt r m
   ·rw[if_pos h2]
    have c2:ltF (.ofNat 0) (wt r m-wt r n)=true:=by rw[V3,decide_eq_true];simp only[Zv];omega
    have :∃T',Xc E K 0 [4,5,15,16,17] x60_2 (k+1) ⟨[(4,.one (.ptr 0 0 0 0)),(5,.one (.ptr 1 0 0 0)),(15,.one (.p l)),(16,.one (.p (.int .i64 (.ofNat o.length)))),(17,.one (.p (.int .i64 (.ofNat i))))],⟨false,0,8,[moD m],false,u⟩::⟨false,0,8,[moD n],false,u⟩::G⟩=some (.ret,⟨T',⟨false,0,8,[moD m],false,u⟩::⟨false,0,8,[moD n],false,u⟩::(G++[⟨false,0,8,[Ul r],false,50⟩])⟩)/\Xh T' 6=some (.one (.p (.int .i64 (.ofNat 1)))):=by
     apply ex1
     ·rw[Xc]
      simp only[EVS,EVN,EVF,reduceIte,Nat.reduceEqDiff,Nat.reduceLeDiff,Nat.reduceAdd,x60_2,hlt,hidx,rowP_D,Vd,r8,t3,w0,q1,q2,q2',q3,q4,q5,q6,c1,c2]
      rfl
     ·simp only[EVS,reduceIte,Nat.reduceEqDiff]
    obtain⟨T',g1,g2⟩:=this
    exact⟨.ret,T',_,g1,.inr ⟨rfl,g2⟩⟩
   ·rw[if_neg h2]
    have c2:ltF (.ofNat 0) (wt r m-wt r n)=false:=by rw[V3,decide_eq_false];simp only[Zv];omega
    obtain⟨ex,T',G',g1,g2⟩:=pcmpO_loop (K:=K) sl ho hm hn hol hK u d (i+1) k (G++[⟨false,0,8,[Ul r],false,50⟩]) (by omega) (by omega)
    refine⟨ex,T',G',?_,g2⟩
    rw[Xc]
    simp only[EVS,EVN,EVF,reduceIte,Nat.reduceEqDiff,Nat.reduceLeDiff,Nat.reduceAdd,x60_2,hlt,hidx,rowP_D,Vd,r8,t3,w0,q1,q2,q2',q3,q4,q5,q6,c1,c2,f1]
    exact g1
theorem pcmpO_ret {B:Base}(hB:Std B){l:PL}{o:List (List Int)}{m n:List Nat}(sl:IsO l o)(ho:V9 o)(hm:Xx m)(hn:Xx n)(hol:o.length<1000000):Ret B 60 [.one l,.agg (mo m),.agg (mo n)] (.one (.int .i64 (X9 o m n))):=by
 have hc:=TX hB hm.1 hn.1
 have m8:=hm.1
 have n8:=hn.1
 have t1:(moD m).take 8=moD m:=Zd (by rw[Xa];omega)
 have t2:(moD n).take 8=moD n:=Zd (by rw[Xa];omega)
 have he:=eqInts_mo m n (by rw[m8,n8])
 have hlen:=sl.len
 rw[Yi]at hlen
 refine Ret.of (hB.tab _ _ rfl) ((hc.evt.and (hB.evt.and (Evt.ge (o.length+9)))).mono fun E K ⟨e3,hmd,hK⟩=> ?_)
 have hba:∀(x y:List DL),Vg false .i64 8 [.agg x,.agg y]=(bif Nat.beq x.length 8 then(match XI .i64 x y with |some b=>some ⟨.one (.p (.bool (b !=false))),[],[],[]⟩|none=>none)else none):=fun x y=>by
  simp only[Vg,Res.pure]
  cases XI .i64 x y<;>rfl
 by_cases hmn:m=n
 ·rw[decide_eq_true hmn]at he
  rw[show X9 o m n=.ofNat 0 by rw[<-hmn];exact cmpO_self o m]
  simp only[EVS,EVN,reduceIte,Nat.reduceEqDiff,Nat.reduceLeDiff,Nat.reduceAdd,x60,XZ,Xa,m8,n8,t1,t2,hba,he]
 ·rw[decide_eq_false hmn]at he
  obtain⟨ex,T',G',g1,g2⟩:=pcmpO_loop (E:=E) (K:=K) sl ho hm hn hol (by omega) 51 o.length 0 K [] (by omega) (by omega)
  rw[Yh]at g2
  rcases g2 with⟨rfl,g2,g3,g4⟩|⟨rfl,g2⟩
  ·rw[g2]
   simp only[EVS,EVN,reduceIte,Nat.reduceEqDiff,Nat.reduceLeDiff,Nat.reduceAdd,x60,XZ,Xa,m8,n8,t1,t2,hba,he,hlen,TK,TH,hmd,MDS,g1,g3,g4,e3]
  ·simp only[EVS,EVN,reduceIte,Nat.reduceEqDiff,Nat.reduceLeDiff,Nat.reduceAdd,x60,XZ,Xa,m8,n8,t1,t2,hba,he,hlen,g1,g2]
end Go.Proofs.YtefpgecinlekpaaGreat
