/- Orders of monomials: Cmp, in the program and the reference. -/
import Derived.Test.YtefpgecinlekpaaGreatMon
set_option maxHeartbeats 16000000
set_option maxRecDepth 100000
namespace Go.Num
def wt:List Int->List Nat->Int
 |r::rs,e::es=>r*(e:Int)+wt rs es
 |_,_=>0
def Wd:List (List Int)->List Nat->List Nat->Int
 |[],m,n=>XW m n
 |r::o,m,n=>if wt r m<wt r n then .negSucc 0 else if wt r n<wt r m then .ofNat 1 else Wd o m n
theorem cmpO_self:∀(o:List (List Int)) (m:List Nat),Wd o m m=.ofNat 0
 |[],m=>UR m
 |r::o,m=>by simp only[Wd,Int.lt_irrefl,if_false];exact cmpO_self o m
def Row8 (r:List Int):Prop:=r.length=8/\∀w∈r,-1000<=w/\w<=1000
def Tj (o:List (List Int)):Prop:=∀r∈o,Row8 r
theorem mul_bd {w:Int}{e:Int}{W X:Int}(h1: -W<=w)(h2:w<=W)(h3: -X<=e)(h4:e<=X)(hW:0<=W)(hX:0<=X): -(W*X)<=w*e/\w*e<=W*X:=by
 have a1:w.natAbs<=W.natAbs:=by omega
 have a2:e.natAbs<=X.natAbs:=by omega
 have:=Yz a1 a2
 rw[<-Yi,<-Yi]at this
 have h:0<=W*X:=Int.mul_nonneg hW hX
 omega
end Go.Num
namespace Go.Proofs.YtefpgecinlekpaaGreat
open Go.Ev Go.Num
theorem wrap_i {z:Int}(h1: -9223372036854775808<=z)(h2:z<9223372036854775808):Xd .i64 z=z:=by
 cases z with
 |ofNat n=>exact wrap_i64 (by simp only[ZH]at h2;omega)
 |negSucc n=>
  show VA .i64 (X7 .i64 (.negSucc n))=_
  have hn:n<9223372036854775808:=by omega
  have e:X7 .i64 (.negSucc n)=18446744073709551615-n:=by
   show(18446744073709551616-1)-n%18446744073709551616=_
   rw[Zd (by omega)]
  rw[e]
  show(bif true&&Nat.ble (18446744073709551616 / 2) (18446744073709551615-n)then Int.negSucc (18446744073709551616-(18446744073709551615-n)-1)else _)=_
  have h:Nat.ble (18446744073709551616 / 2) (18446744073709551615-n)=true:=T5 (by omega)
  rw[h,Bool.and_self,cond_true]
  congr 1;omega
theorem TU (x y:Int):ltF x y=decide (x<y):=by
 cases x with
 |ofNat a=>cases y with
  |ofNat b=>rw[ltF_nn];congr 1;simp
  |negSucc b=>show false=_;rw[decide_eq_false (by simp only[ZH];omega)]
 |negSucc a=>cases y with
  |ofNat b=>show true=_;rw[decide_eq_true (by simp only[ZH];omega)]
  |negSucc b=>
   show Nat.blt b a=_
   rw[blt_dec];congr 1;simp only[eq_iff_iff];omega
def U4 (r:List Int):List PL:=r.map fun z=>.int .i64 z
def S0 (r:List Int):List DL:=r.map fun z=>.p (.int .i64 z)
theorem rowP_D (r:List Int):(U4 r).map DL.p=S0 r:=by simp[U4,S0]
theorem Sp (r:List Int):(S0 r).length=r.length:=by simp[S0]
theorem rowP_len (r:List Int):(U4 r).length=r.length:=by simp[U4]
theorem rowD_drop {r:List Int}{i:Nat}{w:Int}(h:r[i]? =some w):(S0 r).drop i=.p (.int .i64 w)::S0 (r.drop (i+1)):=by
 obtain⟨h1,rfl⟩:=Zb.1 h
 rw[S0,<-List.map_drop,Z1 h1];rfl
def IsO (l:PL)(o:List (List Int)):Prop:=Sl l (o.map U4)
theorem drop_getI {r:List Int}{i:Nat}{w:Int}(h:r[i]? =some w):r.drop i=w::r.drop (i+1):=by
 obtain⟨h1,rfl⟩:=Zb.1 h
 exact Z1 h1
theorem TZ {B:Base}{α:Type}{p:α->Oracle->Nat->Prop}:∀{l:List α},(∀x∈l,Evt B (p x))->Evt B fun E K=>∀x∈l,p x E K
 |[],_=>Evt.of fun _ _ _ h=>by cases h
 |a::l,h=>((h a (Zh ..)).and (TZ fun x hx=>h x (Zc _ hx))).mono fun E K ⟨h1,h2⟩ x hx=>by
  rcases Zk.1 hx with rfl|hx
  ·exact h1
  ·exact h2 x hx
end Go.Proofs.YtefpgecinlekpaaGreat
namespace Go.Num
def wtd:List Int->List Nat->List Nat->Int
 |r::rs,a::as,b::bs=>r*((a:Int)-(b:Int))+wtd rs as bs
 |_,_,_=>0
theorem wtd_eq:∀{r:List Int} {m n:List Nat},r.length=m.length->m.length=n.length->wtd r m n=wt r m-wt r n
 |[],[],[],_,_=>rfl
 |[],_::_,_,h,_=>by simp at h
 |_::_,[],_,h,_=>by simp at h
 |_,[],_::_,_,h=>by simp at h
 |_,_::_,[],_,h=>by simp at h
 |w::r,a::m,b::n,h1,h2=>by
  have ih:=wtd_eq (r:=r) (m:=m) (n:=n) (by simpa using h1) (by simpa using h2)
  simp only[wtd,wt,ih,Int.mul_sub];omega
end Go.Num
namespace Go.Proofs.YtefpgecinlekpaaGreat
open Go.Ev Go.Num
def wKeep (l:PL)(len i:Nat)(acc:Int)(r:List Int)(j:Nat):List (Nat×DV):=[(4,.one (.ptr 0 0 0 0)),(5,.one (.ptr 1 0 0 0)),(9,.one (.p (.int .i64 acc))),(15,.one (.p l)),(16,.one (.p (.int .i64 (.ofNat len)))),(17,.one (.p (.int .i64 (.ofNat i)))),(21,.agg (S0 r)),(22,.one (.p (.int .i64 (.ofNat j))))]
theorem pweight_loop {E:Oracle}{K:Nat}{l:PL}{len ii:Nat}{r:List Int}{m n:List Nat}(hr:Row8 r)(hm:XF m)(hn:XF n){M:Int}(hM:M=65535000)(u:Nat)(G:List Blk):∀(d i k:Nat) (acc:Int),i+d=8->d<k->-((i:Int)*M)<=acc->acc<=(i:Int)*M->
  ∃T',Xa E K 0 [4,5,9,15,16,17,21,22] x60_1 k ⟨wKeep l len ii acc r i,⟨false,0,8,[moD m],false,u⟩::⟨false,0,8,[moD n],false,u⟩::G⟩=some (.exit 2,⟨T',⟨false,0,8,[moD m],false,u⟩::⟨false,0,8,[moD n],false,u⟩::G⟩)/\(Xf T' 4=some (.one (.ptr 0 0 0 0))/\Xf T' 5=some (.one (.ptr 1 0 0 0))/\Xf T' 9=some (.one (.p (.int .i64 (acc+wtd (r.drop i) (m.drop i) (n.drop i)))))/\Xf T' 15=some (.one (.p l))/\Xf T' 16=some (.one (.p (.int .i64 (.ofNat len))))/\Xf T' 17=some (.one (.p (.int .i64 (.ofNat ii)))))
 |_,_,0,_,_,h,_,_=>by omega
 |0,i,k+1,acc,hi,_,_,_=>by
  obtain rfl:i=8:=by omega
  rw[List.drop_of_length_le (by rw[hr.1];omega),show wtd [] (m.drop 8) (n.drop 8)=0 from rfl,Int.add_zero]
  unfold wKeep
  apply ex1
  ·rw[Xa]
   simp only[EVS,EVN,reduceIte,Nat.reduceEqDiff,x60_1,ZA]
   rfl
  ·simp only[EVS,reduceIte,Nat.reduceEqDiff,and_self]
 |d+1,i,k+1,acc,hi,hk,h1,h2=>by
  obtain⟨w,hw⟩:∃w,r[i]? =some w:=⟨_,Zf (by rw[hr.1];omega)⟩
  obtain⟨e,he⟩:∃e,m[i]? =some e:=⟨_,Zf (by rw[hm.1];omega)⟩
  obtain⟨f,hf⟩:∃f,n[i]? =some f:=⟨_,Zf (by rw[hn.1];omega)⟩
  have bw:=hr.2 w (Zu hw)
  have be:=hm.2 e (Zu he)
  have bf:=hn.2 f (Zu hf)
  obtain⟨b1,b2⟩:=mul_bd (w:=w) (e:=(e:Int)-(f:Int)) (W:=1000) (X:=65535) bw.1 bw.2 (by omega) (by omega) (by decide) (by decide)
  have hi8:i<8:=by omega
  have hi8':i<=8:=by omega
  have f1:Xd .i64 (.ofNat (i+1))=.ofNat (i+1):=wrap_i64 (by omega)
  have hb1: -(((i+1:Nat):Int)*M)<=acc+w*(Int.ofNat e-Int.ofNat f):=by
   rw[Int.natCast_add,Int.add_mul];simp only[ZH];omega
  have hb2:acc+w*(Int.ofNat e-Int.ofNat f)<=((i+1:Nat):Int)*M:=by
   rw[Int.natCast_add,Int.add_mul];simp only[ZH];omega
  have him:(i:Int)*M<=8*M:=Int.mul_le_mul_of_nonneg_right (by omega) (by omega)
  have f0:Xd .i64 (Int.ofNat e-Int.ofNat f)=Int.ofNat e-Int.ofNat f:=wrap_i (by simp only[ZH];omega) (by simp only[ZH];omega)
  have f2:Xd .i64 (w*(Int.ofNat e-Int.ofNat f))=w*(Int.ofNat e-Int.ofNat f):=wrap_i (by simp only[ZH];omega) (by simp only[ZH];omega)
  have f3:Xd .i64 (acc+w*(Int.ofNat e-Int.ofNat f))=acc+w*(Int.ofNat e-Int.ofNat f):=wrap_i (by simp only[ZH];omega) (by simp only[ZH];omega)
  obtain⟨T',g1,g2,g2',g3,g4⟩:=pweight_loop (E:=E) (K:=K) (l:=l) (len:=len) (ii:=ii) hr hm hn hM u G d (i+1) k (acc+w*(Int.ofNat e-Int.ofNat f)) (by omega) (by omega) hb1 hb2
  rw[drop_getI hw,SH he,SH hf]
  refine⟨T',?_,g2,g2',by rw[g3];simp only[wtd,ZH];rw[Int.add_assoc],g4⟩
  have q1:=rowD_drop hw
  have q2:=Wl he
  have q3:=Wl hf
  have r8:=hr.1
  have m8:=hm.1
  have n8:=hn.1
  have q4:∀k',Us 8 false 1 [.agg (S0 r),.one (.p (.int k' (.ofNat i)))]=some ⟨.one (.p (.int .i64 w)),[],[],[]⟩:=by
   intro k'
   simp only[Us,Yd,blt_t hi8,T5 (show i<=(S0 r).length by rw[Sp,r8];omega),Bool.and_self,cond_true,q1,Uf,cond_false,Res.pure]
  unfold wKeep at g1⊢
  rw[Xa]
  simp only[EVS,EVN,reduceIte,Nat.reduceEqDiff,Yd,x60_1,hi8,hi8',f0,f1,f2,f3,q2,q3,q4,Xb,m8,n8]
  exact g1
theorem pcmpO_loop {E:Oracle}{K:Nat}{l:PL}{o:List (List Int)}{m n:List Nat}(sl:IsO l o)(ho:Tj o)(hm:XF m)(hn:XF n)(hol:o.length<1000000)(hK:9<=K)(u:Nat):∀(d i k:Nat) (G:List Blk),i+d=o.length->d<k->
  ∃ex T' G',Xa E K 0 [4,5,15,16,17] x60_2 k ⟨[(4,.one (.ptr 0 0 0 0)),(5,.one (.ptr 1 0 0 0)),(15,.one (.p l)),(16,.one (.p (.int .i64 (.ofNat o.length)))),(17,.one (.p (.int .i64 (.ofNat i))))],⟨false,0,8,[moD m],false,u⟩::⟨false,0,8,[moD n],false,u⟩::G⟩=some (ex,⟨T',⟨false,0,8,[moD m],false,u⟩::⟨false,0,8,[moD n],false,u⟩::G'⟩)/\
   ((ex=.exit 0/\Wd (o.drop i) m n=XW m n/\Xf T' 4=some (.one (.ptr 0 0 0 0))/\Xf T' 5=some (.one (.ptr 1 0 0 0)))\/(ex=.ret/\Xf T' 6=some (.one (.p (.int .i64 (Wd (o.drop i) m n))))))
 |_,_,0,_,_,h=>by omega
 |0,i,k+1,G,hi,_=>by
  have hlt:¬i<o.length:=by omega
  rw[List.drop_of_length_le (by omega)]
  have :∃T',Xa E K 0 [4,5,15,16,17] x60_2 (k+1) ⟨[(4,.one (.ptr 0 0 0 0)),(5,.one (.ptr 1 0 0 0)),(15,.one (.p l)),(16,.one (.p (.int .i64 (.ofNat o.length)))),(17,.one (.p (.int .i64 (.ofNat i))))],⟨false,0,8,[moD m],false,u⟩::⟨false,0,8,[moD n],false,u⟩::G⟩=some (.exit 0,⟨T',⟨false,0,8,[moD m],false,u⟩::⟨false,0,8,[moD n],false,u⟩::G⟩)/\Xf T' 4=some (.one (.ptr 0 0 0 0))/\Xf T' 5=some (.one (.ptr 1 0 0 0)):=by
   apply ex1
   ·rw[Xa]
    simp only[EVS,EVN,reduceIte,Nat.reduceEqDiff,x60_2,hlt]
    rfl
   ·simp only[EVS,reduceIte,Nat.reduceEqDiff,and_self]
  obtain⟨T',g1,g2,g3⟩:=this
  exact⟨.exit 0,T',G,g1,.inl ⟨rfl,rfl,g2,g3⟩⟩
 |d+1,i,k+1,G,hi,hk=>by
  have hlt:i<o.length:=by omega
  obtain⟨r,hr⟩:∃r,o[i]? =some r:=⟨_,Zf hlt⟩
  have hmem:=Zu hr
  have h8:=ho r hmem
  have r8:=h8.1
  have m8:=hm.1
  have n8:=hn.1
  have hidx:=fun(hh:HF) (kd:IntKind)=>sl.idx (h:=hh) (k:=kd) (sz:=8) (c:=U4 r) (i:=i) (by rw[Zv,hr];rfl) (by rw[rowP_len,r8])
  have f1:Xd .i64 (.ofNat (i+1))=.ofNat (i+1):=wrap_i64 (by omega)
  have ed:o.drop i=r::o.drop (i+1):=by
   obtain⟨h1,rfl⟩:=Zb.1 hr
   exact Z1 h1
  have t3:(S0 r).take 8=S0 r:=Ze (by rw[Sp];omega)
  have t4:(S0 r).drop 8=[]:=Zp (by rw[Sp];omega)
  obtain⟨T1,q1,q2,q2',q3,q4,q5,q6⟩:=pweight_loop (E:=E) (K:=K) (l:=l) (len:=o.length) (ii:=i) h8 hm hn (M:=65535000) rfl u (G++[⟨false,0,8,[S0 r],false,50⟩]) 8 0 K 0 (by omega) (by omega) (by simp) (by simp)
  rw[Yh,Yh,Yh,Int.zero_add,wtd_eq (by rw[r8,m8]) (by rw[m8,n8])]at q3
  unfold wKeep at q1
  rw[show(0:Int)=Int.ofNat 0 from rfl]at q1
  have w0:T9 (S0 r)=true:=by
   have :∀r:List Int,T9 (S0 r)=true:=by
    intro r
    induction r with
    |nil=>rfl
    |cons a r ih=>exact ih
   exact this r
  rw[ed]
  simp only[Wd]
  by_cases h1:wt r m<wt r n
  ·rw[if_pos h1]
   have c1:ltF (wt r m-wt r n) (.ofNat 0)=true:=by rw[TU,decide_eq_true];simp only[ZH];omega
   have :∃T',Xa E K 0 [4,5,15,16,17] x60_2 (k+1) ⟨[(4,.one (.ptr 0 0 0 0)),(5,.one (.ptr 1 0 0 0)),(15,.one (.p l)),(16,.one (.p (.int .i64 (.ofNat o.length)))),(17,.one (.p (.int .i64 (.ofNat i))))],⟨false,0,8,[moD m],false,u⟩::⟨false,0,8,[moD n],false,u⟩::G⟩=some (.ret,⟨T',⟨false,0,8,[moD m],false,u⟩::⟨false,0,8,[moD n],false,u⟩::(G++[⟨false,0,8,[S0 r],false,50⟩])⟩)/\Xf T' 6=some (.one (.p (.int .i64 (.negSucc 0)))):=by
    apply ex1
    ·rw[Xa]
     simp only[EVS,EVN,EVF,reduceIte,Nat.reduceEqDiff,Nat.reduceLeDiff,Nat.reduceAdd,x60_2,hlt,hidx,rowP_D,Sp,r8,t3,w0,q1,q2,q2',q3,q4,q5,q6,c1]
     rfl
    ·simp only[EVS,reduceIte,Nat.reduceEqDiff]
   obtain⟨T',g1,g2⟩:=this
   exact⟨.ret,T',_,g1,.inr ⟨rfl,g2⟩⟩
  ·rw[if_neg h1]
   have c1:ltF (wt r m-wt r n) (.ofNat 0)=false:=by rw[TU,decide_eq_false];simp only[ZH];omega
   by_cases h2:wt r n<wt r m
   ·rw[if_pos h2]
    have c2:ltF (.ofNat 0) (wt r m-wt r n)=true:=by rw[TU,decide_eq_true];simp only[ZH];omega
    have :∃T',Xa E K 0 [4,5,15,16,17] x60_2 (k+1) ⟨[(4,.one (.ptr 0 0 0 0)),(5,.one (.ptr 1 0 0 0)),(15,.one (.p l)),(16,.one (.p (.int .i64 (.ofNat o.length)))),(17,.one (.p (.int .i64 (.ofNat i))))],⟨false,0,8,[moD m],false,u⟩::⟨false,0,8,[moD n],false,u⟩::G⟩=some (.ret,⟨T',⟨false,0,8,[moD m],false,u⟩::⟨false,0,8,[moD n],false,u⟩::(G++[⟨false,0,8,[S0 r],false,50⟩])⟩)/\Xf T' 6=some (.one (.p (.int .i64 (.ofNat 1)))):=by
     apply ex1
     ·rw[Xa]
      simp only[EVS,EVN,EVF,reduceIte,Nat.reduceEqDiff,Nat.reduceLeDiff,Nat.reduceAdd,x60_2,hlt,hidx,rowP_D,Sp,r8,t3,w0,q1,q2,q2',q3,q4,q5,q6,c1,c2]
      rfl
     ·simp only[EVS,reduceIte,Nat.reduceEqDiff]
    obtain⟨T',g1,g2⟩:=this
    exact⟨.ret,T',_,g1,.inr ⟨rfl,g2⟩⟩
   ·rw[if_neg h2]
    have c2:ltF (.ofNat 0) (wt r m-wt r n)=false:=by rw[TU,decide_eq_false];simp only[ZH];omega
    obtain⟨ex,T',G',g1,g2⟩:=pcmpO_loop (K:=K) sl ho hm hn hol hK u d (i+1) k (G++[⟨false,0,8,[S0 r],false,50⟩]) (by omega) (by omega)
    refine⟨ex,T',G',?_,g2⟩
    rw[Xa]
    simp only[EVS,EVN,EVF,reduceIte,Nat.reduceEqDiff,Nat.reduceLeDiff,Nat.reduceAdd,x60_2,hlt,hidx,rowP_D,Sp,r8,t3,w0,q1,q2,q2',q3,q4,q5,q6,c1,c2,f1]
    exact g1
theorem pcmpO_ret {B:Base}(hB:Std B){l:PL}{o:List (List Int)}{m n:List Nat}(sl:IsO l o)(ho:Tj o)(hm:XF m)(hn:XF n)(hol:o.length<1000000):Ret B 60 [.one l,.agg (mo m),.agg (mo n)] (.one (.int .i64 (Wd o m n))):=by
 have hc:=TT hB hm.1 hn.1
 have m8:=hm.1
 have n8:=hn.1
 have t1:(moD m).take 8=moD m:=Ze (by rw[Xb];omega)
 have t2:(moD n).take 8=moD n:=Ze (by rw[Xb];omega)
 have he:=SF m n (by rw[m8,n8])
 have hlen:=sl.len
 rw[ZU]at hlen
 refine Ret.of (hB.tab _ _ rfl) ((hc.evt.and (hB.evt.and (Evt.ge (o.length+9)))).mono fun E K ⟨e3,hmd,hK⟩=> ?_)
 have hba:∀(x y:List DL),WY false .i64 8 [.agg x,.agg y]=(bif Nat.beq x.length 8 then(match XO .i64 x y with |some b=>some ⟨.one (.p (.bool (b !=false))),[],[],[]⟩|none=>none)else none):=fun x y=>by
  simp only[WY,Res.pure]
  cases XO .i64 x y<;>rfl
 by_cases hmn:m=n
 ·rw[decide_eq_true hmn]at he
  rw[show Wd o m n=.ofNat 0 by rw[<-hmn];exact cmpO_self o m]
  simp only[EVS,EVN,reduceIte,Nat.reduceEqDiff,Nat.reduceLeDiff,Nat.reduceAdd,x60,XT,Xb,m8,n8,t1,t2,hba,he]
 ·rw[decide_eq_false hmn]at he
  obtain⟨ex,T',G',g1,g2⟩:=pcmpO_loop (E:=E) (K:=K) sl ho hm hn hol (by omega) 51 o.length 0 K [] (by omega) (by omega)
  rw[Yh]at g2
  rcases g2 with⟨rfl,g2,g3,g4⟩|⟨rfl,g2⟩
  ·rw[g2]
   simp only[EVS,EVN,reduceIte,Nat.reduceEqDiff,Nat.reduceLeDiff,Nat.reduceAdd,x60,XT,Xb,m8,n8,t1,t2,hba,he,hlen,frz_moD',ids_moD',hmd,MDS,g1,g3,g4,e3]
  ·simp only[EVS,EVN,reduceIte,Nat.reduceEqDiff,Nat.reduceLeDiff,Nat.reduceAdd,x60,XT,Xb,m8,n8,t1,t2,hba,he,hlen,g1,g2]
end Go.Proofs.YtefpgecinlekpaaGreat
