/- The law SyzygySchreyer, run. -/
import Derived.Test.YtidginchkjhobaaGreatExB
import Derived.Test.YtidginchkjhobaaGreatRows
import Derived.ProofKit
import Derived.OpenShut
set_option maxHeartbeats 16000000
set_option maxRecDepth 100000
namespace Go.Ev
open Go.Proofs.YtidginchkjhobaaGreat Go.Proofs
theorem nB {n m}(h:2*m=n*(n-1))(c:n<=1000):U5 .i64 (Xd .i64 (Int.ofNat n*Xd .i64 (Int.ofNat n-Int.ofNat 1))) (Int.ofNat 2)=some (.p (.int .i64 (.ofNat m))):=by
 cases n with
 |zero=>
  have :m=0:=by omega
  subst this;rfl
 |succ k=>
  rw[Ys]at h;have d:(k+1)*k<=1000*1000:=ZA c (by omega);have e1:Int.ofNat (k+1)-Int.ofNat 1=Int.ofNat k:=by simp only[Yx];omega
  have e2:Int.ofNat (k+1)*Int.ofNat k=Int.ofNat ((k+1)*k):=rfl;rw[e1,wrap_i64 (by omega),e2,wrap_i64 (by omega)];have b:∀a:Nat,U5 .i64 (.ofNat a) (.ofNat (1+1))=some (.p (.int .i64 (Xd .i64 (.ofNat (a / (1+1)))))):=fun a=>by simp only[Xs]
  rw[b,wrap_i64 (by omega)];have :(k+1)*k / (1+1)=m:=by omega
  rw[this]
abbrev KM (L:PL)(k:Nat):Xx:=⟨false,0,2,[[.p L,.p (.int .u8 (.ofNat k))]],false,24⟩
abbrev Gi (a b c:PL)(t:Nat):Xx:=⟨false,0,3,[[.p a,.p b,.p c]],false,t⟩
abbrev YU (lo M:PL)(vg n id v i:Nat):List (Nat×DV):=[(4,.one (.ptr 1 0 0 0)),(5,.one (.ptr 2 0 0 0)),(7,.one (.p (.bool true))),(8,.one (.p lo)),(9,.one (.own 3 vg 0 n)),(10,.one (.p M)),(12,.one (.p (.int .i64 (.ofNat n)))),(13,.one (.own id v 0 n)),(14,.one (.p (.int .i64 (.ofNat i))))]
theorem pJ {a b}(e:0<b)(d:a<256):TN .i64 (.ofNat a) (.ofNat b)=some (.p (.int .i64 (.ofNat (a%b)))):=by
 rcases b with _|b;omega;rfl
theorem Hf {E}{K k}(o:E.mode=md){lo M X a b c P0 P1}{u0 u1 u2 m}{os f D x y}{xss}{ty ty2}(q:u0<256)(r:u1<256)(C:0<xss.length)(H:xss.length<1000000)(F:E.pure 9 [.agg [a]]=some (.one P0))(G:E.pure 9 [.agg [b]]=some (.one P1))(w:Sl M (Xf (gF xss)))
  (s:xss[u0%xss.length]? =some x) (t:xss[u1%xss.length]? =some y) (u:f.length=os.length) (j:L6 E P0 (.Xl (Xf x)) 0 (List.replicate os.length .Xp) f) (l:L6 E P1 (.Xl (Xf y)) os.length f D):
  ∃d z,Xb E K 0 [4,5,7,8,9,10,12,13,14] x6_1 (k+4) ⟨YU lo M os.length os.length 4 0 0,KM X m::Gi a b c ty::Gi (.int .u8 (.ofNat u0)) (.int .u8 (.ofNat u1)) (.int .u8 (.ofNat u2)) ty2::LJ os.length os::TF 0 (List.replicate os.length .Xp)::[]⟩=some (.exit 0,⟨d,z⟩)/\
   (Xi d 4=some (.one (.ptr 1 0 0 0))/\Xi d 5=some (.one (.ptr 2 0 0 0))/\Xi d 7=some (.one (.p (.bool true)))/\Xi d 8=some (.one (.p lo))/\Xi d 9=some (.one (.own 3 os.length 0 os.length))/\Xi d 10=some (.one (.p M))/\Xi d 12=some (.one (.p (.int .i64 (.ofNat os.length))))/\Xi d 13=some (.one (.own 6 os.length 0 os.length))/\
   z=KM X m::Gi a b c ty::Gi (.int .u8 (.ofNat u0)) (.int .u8 (.ofNat u1)) (.int .u8 (.ofNat u2)) ty2::LJ os.length os::TF 0 (List.replicate os.length .Xp)::TF os.length f::TF os.length D::[]):=by
 have e:=w.len;rw[Xt,ZP]at e;have g:(gF xss)[u0%xss.length]? =some (.Xl (Xf x)):=by simp[s]
 have i:(gF xss)[u1%xss.length]? =some (.Xl (Xf y)):=by simp[t]
 have I:=fun(n:HF) (v:IntKind)=>w.idx (h:=n) (k:=v) (sz:=1) (XK g) rfl
 have J:=fun(n:HF) (v:IntKind)=>w.idx (h:=n) (k:=v) (sz:=1) (XK i) rfl
 have L:=pJ C q;have N:=pJ C r;have Q:Xd .i64 (.ofNat u0)=.ofNat u0:=wrap_i64 (by omega);have w1:Xd .i64 (.ofNat u1)=.ofNat u1:=wrap_i64 (by omega);have O:Xd .i64 (.ofNat 1)=.ofNat 1:=rfl;have P:Xd .i64 (.ofNat 2)=.ofNat 2:=rfl;have A:=j (KM X m::Gi a b c ty::Gi (.int .u8 (.ofNat u0)) (.int .u8 (.ofNat u1)) (.int .u8 (.ofNat u2)) ty2::LJ os.length os::TF 0 (List.replicate os.length .Xp)::[]) 4 rfl;have B:=l (KM X m::Gi a b c ty::Gi (.int .u8 (.ofNat u0)) (.int .u8 (.ofNat u1)) (.int .u8 (.ofNat u2)) ty2::LJ os.length os::TF 0 (List.replicate os.length .Xp)::TF os.length f::[]) 5 rfl;rw[YL]at A;rw[u]at B;apply Cn
 ·simp+decide only[Xb,Xo,Xs,VD,Vv,reduceIte,Nat.reduceEqDiff,Nat.reduceLeDiff,Nat.reduceLT,Nat.reduceAdd,x6_1,o,X3,F,G,e,L,N,Q,w1,O,P,I,J,A,B,ZD,ZB,Zj,Zr,YK,List.set_cons_zero,Yb,Nat.reduceMul,Z7,List.drop_succ_cons,List.take_succ_cons,List.take_zero,Zt,ZF];rfl
 ·simp only[Xo,reduceIte,Nat.reduceEqDiff,and_self]
section
variable {E:Xa}{K k:Nat}{lo M X a b c P0 P1 P2:PL}{u0 u1 u2:Nat}{os rs:N'}{xss:Z'}
theorem wT (f:E.mode=md)(o:os.length<2)(i:E.pure 7 []=some (.one (.bool true)))(r:E.pure 15 [.one (.int .u8 (.ofNat k))]=some (.one lo))(s:E.pure 8 [.agg [X,.int .u8 (.ofNat k)]]=some (.one (.Xl (Xf rs))))
  (n:∀H,UL E 16 [.one (.p (.Xl (Xf rs))),.one (.p lo)] H=some (.one (.own H.length os.length 0 os.length),H++[TF os.length os])) (t:E.pure 19 [.one (.Xl (Xf os)),.one lo]=some (.Wd [.one M,.one (.int .i64 (.ofNat 0))])) (v:Sl M (Xf (gF xss))) (q:2*xss.length=os.length*(os.length-1))
  (g:E.pure 26 [.one M,.one (.int .i64 (.ofNat os.length))]=some (.one (.bool true))):
  UN E K x6 [.agg [X,.int .u8 (.ofNat k)],.agg [a,b,c],.agg [.int .u8 (.ofNat u0),.int .u8 (.ofNat u1),.int .u8 (.ofNat u2)]]=some (.one (.bool true)):=by
 have d:=v.len;rw[Xt,ZP]at d;have e:=nB q (by omega);have u:(pc (Xf os)).take os.length=pc (Xf os):=WT (Xf os) (by grind [Xt]);have m:=fun h=>Vb 5 h (Xf os)
 have l:=Nl;cases j:M.scalar<;>simp+decide only[Xo,Xs,VD,Vv,reduceIte,Nat.reduceEqDiff,Nat.reduceLeDiff,Nat.reduceLT,Nat.reduceAdd,x6,f,X3,i,r,s,n,t,g,d,u,m,l,j,e,o,WB,Xt,Zf,ZD,ZB,Zj,Zr,Yb]
theorem Er (j:E.mode=md)(hl:2<=os.length)(D:os.length<=900)(N:u0<256)(O:u1<256)(P:u2<256)(h7:E.pure 7 []=some (.one (.bool true)))(ho:E.pure 15 [.one (.int .u8 (.ofNat k))]=some (.one lo))(hp:E.pure 8 [.agg [X,.int .u8 (.ofNat k)]]=some (.one (.Xl (Xf rs))))
  (hg:∀H,UL E 16 [.one (.p (.Xl (Xf rs))),.one (.p lo)] H=some (.one (.own H.length os.length 0 os.length),H++[TF os.length os])) (hs:E.pure 19 [.one (.Xl (Xf os)),.one lo]=some (.Wd [.one M,.one (.int .i64 (.ofNat 0))])) (T:Sl M (Xf (gF xss))) (hn:2*xss.length=os.length*(os.length-1))
  (J:E.pure 26 [.one M,.one (.int .i64 (.ofNat os.length))]=some (.one (.bool true)))
  (h1:E.pure 9 [.agg [a]]=some (.one P0)) (h2:E.pure 9 [.agg [b]]=some (.one P1)) (h3:E.pure 9 [.agg [c]]=some (.one P2)) (hX:L4 E lo M os xss P0 P1 P2 (u0%xss.length) (u1%xss.length) (u2%(os.length-1))):
  UN E (K+4) x6 [.agg [X,.int .u8 (.ofNat k)],.agg [a,b,c],.agg [.int .u8 (.ofNat u0),.int .u8 (.ofNat u1),.int .u8 (.ofNat u2)]]=some (.one (.bool true)):=by
 have e:=T.len;rw[Xt,ZP]at e;have V:=nB hn (by omega);have a0:os.length*(os.length-1)<=900*899:=ZA D (by omega);have F:0<xss.length:=by
  have :2*1<=os.length*(os.length-1):=ZA hl (by omega);omega
 obtain⟨t0,t1,z1,d,g,g',s,s',y,y',z,l,Y,a1,e1,e2,e3,e4,e5,e6,e7,e8,e9,Z,n,o,q,r,t,u,v,w,x⟩:=hX.ex;obtain⟨T',H',W,k4,k5,k7,k8,k9,Q,R,S,rfl⟩:=Hf (E:=E) (K:=K+4) (k:=K) (u2:=u2) (X:=X) (m:=k) (a:=a) (b:=b) (c:=c) (ty:=28) (ty2:=61) (lo:=lo) j N O F (by omega) h1 h2 T e1 e2 e3 e5 e6;have G:¬os.length<2:=by omega
 have ht:(pc (Xf os)).take os.length=pc (Xf os):=WT (Xf os) (by grind [Xt]);have hf:=fun h=>Vb 5 h (Xf os)
 have hd:=Nl;have f2:24*os.length<=lim:=by unfold lim;omega
 have f3:os.length<=9223372036854775807:=by omega
 have w2:Xd .i64 (.ofNat u2)=.ofNat u2:=wrap_i64 (by omega);have wn:Xd .i64 (.ofNat os.length-.ofNat 1)=.ofNat (os.length-1):=X9 (by omega) (by omega);have I:U5 .i64 (Xd .i64 (.ofNat (os.length*(os.length-1)))) (.ofNat 2)=some (.p (.int .i64 (.ofNat xss.length))):=by
  grind
 have r2:=pJ (b:=os.length-1) (by omega) P;have hi:u2%(os.length-1)<os.length-1:=ZN _ (by omega);generalize u2%(os.length-1)=i at *;have wi:Xd .i64 (.ofNat (i+1))=.ofNat (i+1):=wrap_i64 (by omega);have B:i<os.length:=by omega
 have C:i+1<os.length:=by omega
 have q1:=Q6 e7;have q2:=Q6 e8;have q3:=Q6 e9;have q4:(pc (Xf (d.set i z)))[i+1]? =some [.p s']:=Q6 (by grind);have l4:(F3 d i z l).length=os.length:=by simp[e4]
 have L:(pc (Xf (F3 d i z l))).take os.length=pc (Xf (F3 d i z l)):=WT (Xf (F3 d i z l)) (by grind [Xt]);have A:=fun h=>Vb 5 h (Xf (F3 d i z l))
 have f:=(Sl.Xl (es:=Xf Y)).len;rw[Xt,u]at f;have n4:os.length<=d.length:=by omega
 have hb:M.scalar=false:=by rw[bQ T (by grind)];rfl
 simp only[YU,LJ,TF,yx,KM,Gi]at W;simp only[F3]at *;have U:∀es:Z',(PL.Xl es).scalar=false:=fun _=>rfl
 simp+decide only[Xo,Xs,VD,Vv,reduceIte,Nat.reduceEqDiff,Nat.reduceLeDiff,Nat.reduceLT,Nat.reduceAdd,x6,j,X3,h7,ho,hp,hg,hs,J,h3,e,ht,hf,hd,hb,U,I,G,f2,f3,W,k4,k5,k7,k8,k9,Q,R,S,w2,wn,r2,wi,B,C,q1,q2,q3,q4,n,o,q,r,t,v,w,x,L,A,f,n4,iE,Yi,WB,Xt,Zf,ZD,ZB,Zj,Zr,YK,List.set_cons_zero,Yb,Nat.reduceMul,Z7,List.drop_succ_cons,List.take_succ_cons,List.take_zero,Zt,ZF]
end
theorem Es {B}(y:q7 B)(hB:mL B)(x:Xv B 7 [] (.one (.bool true))){L a b c lo}(hL:iy L){k}(g:Xv B 15 [.one (.int .u8 (.ofNat k))] (.one lo))(N:SA lo (Tb k))(hv:Xv B 50 [.one lo] (.one (.bool true)))(s:Xv B 22 [.one lo] (.one (.bool true)))(ha:Ta a)(hb:Ta b)(hc:Ta c){u0 u1 u2}(p:u0<256)(q:u1<256)(r:u2<256):
  Xv B 6 [.agg [L,.int .u8 (.ofNat k)],.agg [a,b,c],.agg [.int .u8 (.ofNat u0),.int .u8 (.ofNat u1),.int .u8 (.ofNat u2)]] (.one (.bool true)):=by
 have d:=y.toStd;obtain⟨rs,fs,C,D,p3,p4⟩:=AS d (k:=.int .u8 (.ofNat k)) hL;obtain⟨P0,q0,O,P,Q⟩:=jy d ha;obtain⟨P1,q1,R,S,T⟩:=jy d hb;obtain⟨P2,q2,U,V,c3⟩:=jy d hc;obtain⟨ms,w,hm,n,Vm,e,t,X⟩:=G7 k;obtain⟨z,A⟩:=Jw k;have a0:=D.length;obtain⟨os,gs,u,v,I⟩:=xt d N z A s t (L:=.Xl (Xf rs)) .Xl D p3 (by omega);have a4:=v.length;have a5:=I.ln;obtain⟨M,xss,J,F,G,H,r4⟩:=Et y hB t X z A N hv v I P S V Q T c3;by_cases hl:os.length<2
 ·refine Xv.of (d.Wa _ _ rfl) ((x.Xk.and (g.Xk.and (C.Xk.and (u.and (F.Xk.and (H.Xk.and d.Xk)))))).mono fun E K ⟨i,e1,e2,l,m,o,f⟩=> ?_);exact wT f hl i e1 e2 l m J G o
 ·have h:0<xss.length:=by
   have :2*1<=os.length*(os.length-1):=ZA (by omega) (by omega);omega
  have hX:=r4 (u0%xss.length) (u1%xss.length) (u2%(os.length-1)) (ZN _ h) (ZN _ h) (by have:=ZN u2 (show 0<os.length-1 by omega);omega);refine Xv.of (d.Wa _ _ rfl) ((x.Xk.and (g.Xk.and (C.Xk.and (u.and (F.Xk.and (H.Xk.and (O.Xk.and (R.Xk.and (U.Xk.and (hX.and (d.Xk.and (XT.ge 4)))))))))))).mono fun E K ⟨i,e1,e2,l,m,o,W,Y,Z,e9,f,hK⟩=> ?_);obtain⟨K,rfl⟩:∃j,K=j+4:=⟨K-4,by omega⟩;exact Er f (by omega) (by omega) p q r i e1 e2 l m J G o W Y Z e9
def E7:N'->U'->Bool
 |[],[]=>true
 | .int .i64 z::ps,w::ws=>bif decide (z=w)then E7 ps ws else false
 |_,_=>false
def E6:Z'->M'->Bool
 |[],[]=>true
 |p::ps,w::ws=>bif E7 p w then E6 ps ws else false
 |_,_=>false
theorem ou:∀{b} {c},E7 b c=true->b=Vx c
 |[],[],_=>rfl
 | .int .i64 z::b,w::c,h=>by
   unfold E7 at h;cases a:decide (z=w)with
   |false=>rw[a]at h;cases h
   |true=>
    rw[a,cond_true]at h;rw[of_decide_eq_true a,ou h];rfl
theorem fh:∀{b} {c},E6 b c=true->b=c.map Vx
 |[],[],_=>rfl
 |p::b,w::c,h=>by
  unfold E6 at h;cases a:E7 p w with
  |false=>rw[a]at h;cases h
  |true=>
   rw[a,cond_true]at h;rw[ou a,fh h];rfl
def CW (k:Nat):Option PV->Bool
 |some (.one (.Xl es))=>E6 es (Tb k)
 |some (.one .Xp)=>(Tb k).isEmpty
 |_=>false
theorem CV:((List.range 256).all fun k=>CW k ((BB.E 1000 12).pure 15 [.one (.int .u8 (.ofNat k))]))=true:=by kernel_rfl
def Je (k:Nat):Nat:=if k%8<6 then k%8 else 6+8*(k / 8%16)
theorem GU:((List.range 256).all fun k=>Nat.blt (Je k) 128&&E6 ((Tb k).map Vx) (Tb (Je k)))=true:=by kernel_rfl
def Hl:Option PV->Bool
 |some (.one (.bool true))=>true
 |_=>false
noncomputable def S7 (lo:PL):Bool:=Hl ((BB.E 1000 12).pure 50 [.one lo])&&Hl ((BB.E 1000 12).pure 22 [.one lo])
theorem MG:S7 (.Xl ((Tb 0).map Vx))=true:=by kernel_rfl
theorem MF:S7 (.Xl ((Tb 1).map Vx))=true:=by kernel_rfl
theorem ME:S7 (.Xl ((Tb 2).map Vx))=true:=by kernel_rfl
theorem MD:S7 (.Xl ((Tb 3).map Vx))=true:=by kernel_rfl
theorem MC:S7 (.Xl ((Tb 4).map Vx))=true:=by kernel_rfl
theorem MB:S7 (.Xl ((Tb 5).map Vx))=true:=by kernel_rfl
theorem MA:S7 (.Xl ((Tb 6).map Vx))=true:=by kernel_rfl
theorem K4:S7 (.Xl ((Tb 14).map Vx))=true:=by kernel_rfl
theorem K3:S7 (.Xl ((Tb 22).map Vx))=true:=by kernel_rfl
theorem K2:S7 (.Xl ((Tb 30).map Vx))=true:=by kernel_rfl
theorem K1:S7 (.Xl ((Tb 38).map Vx))=true:=by kernel_rfl
theorem K0:S7 (.Xl ((Tb 46).map Vx))=true:=by kernel_rfl
theorem KZ:S7 (.Xl ((Tb 54).map Vx))=true:=by kernel_rfl
theorem KY:S7 (.Xl ((Tb 62).map Vx))=true:=by kernel_rfl
theorem KX:S7 (.Xl ((Tb 70).map Vx))=true:=by kernel_rfl
theorem KW:S7 (.Xl ((Tb 78).map Vx))=true:=by kernel_rfl
theorem KV:S7 (.Xl ((Tb 86).map Vx))=true:=by kernel_rfl
theorem KU:S7 (.Xl ((Tb 94).map Vx))=true:=by kernel_rfl
theorem IT:S7 (.Xl ((Tb 102).map Vx))=true:=by kernel_rfl
theorem IS:S7 (.Xl ((Tb 110).map Vx))=true:=by kernel_rfl
theorem IQ:S7 (.Xl ((Tb 118).map Vx))=true:=by kernel_rfl
theorem IP:S7 (.Xl ((Tb 126).map Vx))=true:=by kernel_rfl
theorem Ge {k}(h:k∈[0,1,2,3,4,5]++(List.range 16).map fun j=>6+8*j):S7 (.Xl ((Tb k).map Vx))=true:=by
 have e:[0,1,2,3,4,5]++(List.range 16).map (fun j=>6+8*j)=[0,1,2,3,4,5,6,14,22,30,38,46,54,62,70,78,86,94,102,110,118,126]:=rfl;rw[e]at h;simp only[Zk,ZQ,or_false]at h;rcases h with rfl|rfl|rfl|rfl|rfl|rfl|rfl|rfl|rfl|rfl|rfl|rfl|rfl|rfl|rfl|rfl|rfl|rfl|rfl|rfl|rfl|rfl
 ·exact MG
 ·exact MF
 ·exact ME
 ·exact MD
 ·exact MC
 ·exact MB
 ·exact MA
 ·exact K4
 ·exact K3
 ·exact K2
 ·exact K1
 ·exact K0
 ·exact KZ
 ·exact KY
 ·exact KX
 ·exact KW
 ·exact KV
 ·exact KU
 ·exact IT
 ·exact IS
 ·exact IQ
 ·exact IP
theorem Gd:S7 .Xp=true:=by kernel_rfl
theorem y9 {r:Option PV}(h:Hl r=true):r=some (.one (.bool true)):=by
 unfold Hl at h;split at h
 ·rfl
 ·cases h
theorem Df:∀{a b:M'},a.map Vx=b.map Vx->a=b:=fun{a b} h=>by
 have c:∀{x y:U'},Vx x=Vx y->x=y:=fun{x y} e=>by
  have:=congrArg (List.map fun p=>match p with |PL.int _ z=>z|_=>0) e;unfold Vx at this;simpa[List.map_map,Function.comp_def]using this
 exact(List.map_inj_right fun x y=>c).1 h
theorem Mz {k:Nat}(a:k<256):S7 (.Xl ((Tb k).map Vx))=true:=by
 have h:=ZH.1 GU k (List.mem_range.2 a);rw[Zs]at h;rw[Df (fh h.2)];refine Ge (ZS.2 ?_);unfold Je;split
 ·left;have :k%8<6:=by assumption
  generalize k%8=j at *;simp only[Zk,ZQ,or_false];omega
 ·right;exact ZM.2 ⟨k / 8%16,List.mem_range.2 (by omega),rfl⟩
theorem CU {k}(c:k<256):∃lo,Xv BB 15 [.one (.int .u8 (.ofNat k))] (.one lo)/\SA lo (Tb k)/\Xv BB 50 [.one lo] (.one (.bool true))/\Xv BB 22 [.one lo] (.one (.bool true)):=by
 have h:=ZH.1 CV k (List.mem_range.2 c);have a:∀lo,S7 lo=true->Xv BB 50 [.one lo] (.one (.bool true))/\Xv BB 22 [.one lo] (.one (.bool true)):=fun lo h=>by
  unfold S7 at h;rw[Zs]at h;exact⟨⟨1000,12,y9 h.1⟩,⟨1000,12,y9 h.2⟩⟩
 unfold CW at h;split at h
 ·rename_i d e;have b:=fh h;exact⟨.Xl d,⟨1000,12,e⟩,by unfold SA;rw[<-b];exact .Xl,a _ (by rw[b];exact Mz c)⟩
 ·rename_i e;have :Tb k=[]:=List.isEmpty_iff.1 h;exact⟨.Xp,⟨1000,12,e⟩,by unfold SA;rw[this];exact .nil,a _ Gd⟩
 ·cases h
open Go.ChangeShapes Go.WideShapes Go.ChangeAt Go.RowKit
theorem yV {g:Type}{Q:Nat->g->Prop}:∀n,(∀i,i<n->∃c,Q i c)->∃b:List g,b.length=n/\∀i c,b[i]? =some c->Q i c
 |0,_=>⟨[],rfl,fun i c h=>by simp at h⟩
 |n+1,h=>by
  obtain⟨b,j,k⟩:=yV n (fun i f=>h i (by omega));obtain⟨c,l⟩:=h n (by omega);refine⟨b++[c],by simp[j],fun i d a=> ?_⟩;by_cases f:i<b.length
  ·rw[Z9 f]at a;exact k i d a
  ·rw[ZZ (by omega)]at a;have e:i-b.length=0:=by
    have:=(Zg.1 a).1;simp at this;omega
   rw[e]at a;simp only[List.getElem?_cons_zero,Zb]at a;subst a;have :i=n:=by omega
   subst this;exact l
section
variable {H:Type}{enc:TypeId×Value->H}{P:Program}{w:World}{O:BS}
theorem nj (U:∀b,¬O b){t e:TypeId}{z sz}{r}{x}(Z:P.underlying t=some (.slice e))(V:P.cellsOf e=sz)(Y:0<sz)(K:N'->Prop)
  (s:∀(n:Nat) (r:List Value) (y:DataW H×List MemPlace),DataW.trod enc P w 0 (fun _=>true) true n e r=some y->∃c:N',c.length=sz/\K c/\∀(j:Nat) (d:PL),c[j]? =some d->∃u,r[j]? =some u/\Ws w O u d)
  (h:DataW.trod enc P w 0 (fun _=>true) true z t r=some x):∃v R o,r=[v]/\Ws w O v R/\Sl R o/\∀c∈o,K c:=by
 rcases DataW.trod_slice Z h with⟨rfl,-⟩|⟨a,m,q,B,rest,n,-,rfl,-,-,X,-,M,E,-,-⟩
 ·exact⟨_,.Xp,[],rfl,.Xp,.nil,fun _ h=>by cases h⟩
 ·have key:∀i,i<m->∃c:N',c.length=sz/\K c/\∀(j:Nat) (d:PL),c[j]? =some d->∃u,w.cell? ((a.add (i*sz)).add j)=some u/\Ws w O u d:=by
   intro i g;have J:=E i g;rw[Zd (by omega),V,Option.bind_eq_some_iff]at J;obtain⟨N,C,I⟩:=J;obtain⟨-,W,l⟩:=World.cells?_some C;obtain⟨c,Q,S,T⟩:=s n N _ I;refine⟨c,Q,S,fun j d p=> ?_⟩;obtain⟨u,k,F⟩:=T j d p;exact⟨u,by rw[l j (by have:=(Zg.1 p).1;omega)];exact k,F⟩
  obtain⟨o,L,f⟩:=yV m key;refine⟨_,.Xl o,o,rfl,?_,.Xl,fun c D=> ?_⟩
  ·by_cases h0:m=0
   ·subst h0;obtain rfl:=YC L;exact Ws.YY a q
   ·obtain⟨b,A,sp⟩:=a;obtain⟨c,k1,-,k3⟩:=key 0 (by omega);obtain⟨u,k,-⟩:=k3 0 c[0] (Zd (by omega));have G:sp=none:=by
     have:=World.cell?_spot k;simpa[Addr.add]using this
    subst G;rw[<-L];refine .Xl b A sz q o (fun i j=>(w.cell? ⟨b,A+i*sz+j,none⟩).getD (.bool true)) (fun _ _ _ _ _ _=>U b) (by omega) (fun i c g=>(f i c g).1) (fun i c j d g p=> ?_) (fun i c j d g p=> ?_) (.inr rfl)
    ·obtain⟨u,k,-⟩:=(f i c g).2.2 j d p;rw[UX,UX]at k;rw[k];rfl
    ·obtain⟨u,k,F⟩:=(f i c g).2.2 j d p;rw[UX,UX]at k;rw[k];exact F
  ·obtain⟨i,g⟩:=List.getElem?_of_mem D;exact(f i c g).2.1
end
section
variable {H:Type}{enc:TypeId×Value->H}{w:World}{O:BS}
theorem wf_i8 {a}(h:(Lit.int .i8 a).wf=true): -128<=a/\a<=127:=by
 simp[Lit.wf,IntKind.min,IntKind.max,IntKind.signed,IntKind.bits]at h;omega
theorem wf_u8 {a}(h:(Lit.int .u8 a).wf=true):0<=a/\a<=255:=by
 simp[Lit.wf,IntKind.min,IntKind.max,IntKind.signed,IntKind.bits]at h;omega
theorem ML (n:Nat)(g:List Value)(y:DataW H×List MemPlace)(h:DataW.trod enc Tryz.prog w 0 (fun _=>true) true n 110 g=some y):∃c:N',c.length=5/\ri c/\∀(j:Nat) (d:PL),c[j]? =some d->∃u,g[j]? =some u/\Ws w O u d:=by
 obtain⟨P,m,-,-,z,M,k⟩:=DataW.trod_array Tryz.underlying110 h;have A:g.length=5:=z.trans (by kernel_rfl);have v:Tryz.prog.cellsOf 38=1:=by kernel_rfl
 have b:∀i,i<5->∃a,g[i]? =some (.int .i8 a)/\-128<=a/\a<=127:=by
  intro i x;have s:=k i x;rw[Zd (by omega),v,Z6]at s;obtain⟨a,e,-,B⟩:=DataW.trod_int Tryz.underlying38 s;refine⟨a,?_,wf_i8 B⟩;have t:((g.drop i).take 1)[0]? =some (.int .i8 a):=by rw[e];rfl
  rw[List.getElem?_take,List.getElem?_drop]at t;simpa using t
 obtain⟨l,C,I⟩:=b 0 (by omega);obtain⟨o,D,J⟩:=b 1 (by omega);obtain⟨p,E,K⟩:=b 2 (by omega);obtain⟨q,F,L⟩:=b 3 (by omega);obtain⟨r,G,N⟩:=b 4 (by omega);refine⟨sZ l o p q r,rfl,⟨l,o,p,q,r,rfl,I,J,K,L⟩,fun j d f=> ?_⟩
 match j,f with
 |0,f=>cases f;exact⟨_,C,.int _ _⟩
 |1,f=>cases f;exact⟨_,D,.int _ _⟩
 |2,f=>cases f;exact⟨_,E,.int _ _⟩
 |3,f=>cases f;exact⟨_,F,.int _ _⟩
 |4,f=>cases f;exact⟨_,G,.int _ _⟩
 |j+5,f=>simp[sZ]at f
theorem Lp (l:∀b,¬O b){n:Nat}{a:List Value}{y:DataW H×List MemPlace}(h:DataW.trod enc Tryz.prog w 0 (fun _=>true) true n 27 a=some y):∃v R,a=[v]/\Ws w O v R/\Ta R:=by
 obtain⟨r,m,-,-,o,q,d⟩:=DataW.trod_struct Tryz.underlying27 h;have p:a.length=1:=o.trans (by kernel_rfl);have c:DataW.trod enc Tryz.prog w 0 (fun _=>true) true m 25 ((a.drop 0).take (Tryz.prog.cellsOf 25))=r[0]? :=d 0 _ rfl;rw[Zd (by simp at q;omega)]at c;have k:(a.drop 0).take (Tryz.prog.cellsOf 25)=a:=by rw[show Tryz.prog.cellsOf 25=1 by kernel_rfl,Z7,Ze (by omega)]
 rw[k]at c;obtain⟨v,R,e,f,g,i,j⟩:=nj l Tryz.underlying25 (sz:=5) (by kernel_rfl) (by decide) ri ML c;exact⟨v,R,f,g,e,i,j⟩
theorem MN (f:∀b,¬O b){n}{e}{y}(h:DataW.trod enc Tryz.prog w 0 (fun _=>true) true n 22 e=some y):∃v L,e=[v]/\Ws w O v L/\∃g,Sl L g/\∀c∈g,∃R,c=[R]/\Ta R:=by
 obtain⟨v,L,i,k,l,m,o⟩:=nj f Tryz.underlying22 (sz:=1) (by kernel_rfl) (by decide) (fun c=>∃R,c=[R]/\Ta R) (fun n e y p=>by
  obtain⟨v,R,rfl,q,r⟩:=Lp f p;refine⟨[R],rfl,⟨R,rfl,r⟩,fun j d a=> ?_⟩
  match j,a with
  |0,a=>cases a;exact⟨v,rfl,q⟩
  |j+1,a=>simp at a) h
 exact⟨v,L,k,l,i,m,o⟩
theorem Lo (n){b}{y}(h:DataW.trod enc Tryz.prog w 0 (fun _=>true) true n 5 b=some y):∃k,b=[.int .u8 (Int.ofNat k)]/\k<256:=by
 obtain⟨a,e,-,d⟩:=DataW.trod_int Tryz.underlying5 h;have c:=wf_u8 d;refine⟨a.toNat,?_,by omega⟩;rw[e,show Int.ofNat a.toNat=a from Int.toNat_of_nonneg c.1]
theorem MO (q:∀b,¬O b){n}{c}{y}(h:DataW.trod enc Tryz.prog w 0 (fun _=>true) true n 24 c=some y):∃v L k,c=[v,.int .u8 (Int.ofNat k)]/\k<256/\Ws w O v L/\iy L:=by
 obtain⟨l,m,-,-,s,j,a⟩:=DataW.trod_struct Tryz.underlying24 h;have d:c.length=2:=s.trans (by kernel_rfl)
 match c,d with
 |[c0,c1],_=>
  have g:DataW.trod enc Tryz.prog w 0 (fun _=>true) true m 22 (([c0,c1].drop 0).take (Tryz.prog.cellsOf 22))=l[0]? :=a 0 _ rfl;have i:DataW.trod enc Tryz.prog w 0 (fun _=>true) true m 5 (([c0,c1].drop 1).take (Tryz.prog.cellsOf 5))=l[1]? :=a 1 _ rfl;rw[Zd (by simp at j;omega),show Tryz.prog.cellsOf 22=1 by kernel_rfl]at g;rw[Zd (by simp at j;omega),show Tryz.prog.cellsOf 5=1 by kernel_rfl]at i;obtain⟨v,L,f,o,p⟩:=MN q g;obtain⟨k,e,r⟩:=Lo _ i;simp at f e;subst f e;exact⟨c0,L,k,rfl,r,o,p⟩
theorem MP (C:∀b,¬O b){n}{f}{y}(h:DataW.trod enc Tryz.prog w 0 (fun _=>true) true n 28 f=some y):∃l o p g j k,f=[l,o,p]/\Ws w O l g/\Ws w O o j/\Ws w O p k/\Ta g/\Ta j/\Ta k:=by
 obtain⟨Q,m,-,-,E,P,r⟩:=DataW.trod_array Tryz.underlying28 h;have s:f.length=3:=E.trans (by kernel_rfl);have B:Tryz.prog.cellsOf 27=1:=by kernel_rfl
 have d:∀i,i<3->∃v q,f[i]? =some v/\Ws w O v q/\Ta q:=by
  intro i D;have t:=r i D;rw[Zd (by omega),B,Z6]at t;obtain⟨v,q,e,G,F⟩:=Lp C t;refine⟨v,q,?_,G,F⟩;have u:((f.drop i).take 1)[0]? =some v:=by rw[e];rfl
  rw[List.getElem?_take,List.getElem?_drop]at u;simpa using u
 obtain⟨l,g,x,I,L⟩:=d 0 (by omega);obtain⟨o,j,z,J,M⟩:=d 1 (by omega);obtain⟨p,k,A,K,N⟩:=d 2 (by omega);refine⟨l,o,p,g,j,k,?_,I,J,K,L,M,N⟩
 match f,s with
 |[a,b,c],_=>
  simp at x z A;rw[x,z,A]
theorem Lq {n}{f}{y}(h:DataW.trod enc Tryz.prog w 0 (fun _=>true) true n 61 f=some y):∃a b c,f=[.int .u8 (Int.ofNat a),.int .u8 (Int.ofNat b),.int .u8 (Int.ofNat c)]/\a<256/\b<256/\c<256:=by
 obtain⟨E,m,-,-,v,D,g⟩:=DataW.trod_array Tryz.underlying61 h;have j:f.length=3:=v.trans (by kernel_rfl);have s:Tryz.prog.cellsOf 5=1:=by kernel_rfl
 have d:∀i,i<3->∃k,f[i]? =some (.int .u8 (Int.ofNat k))/\k<256:=by
  intro i t;have q:=g i t;rw[Zd (by omega),s,Z6]at q;obtain⟨k,e,u⟩:=Lo _ q;refine⟨k,?_,u⟩;have r:((f.drop i).take 1)[0]? =some (.int .u8 (Int.ofNat k)):=by rw[e];rfl
  rw[List.getElem?_take,List.getElem?_drop]at r;simpa using r
 obtain⟨a,l,A⟩:=d 0 (by omega);obtain⟨b,o,B⟩:=d 1 (by omega);obtain⟨c,p,C⟩:=d 2 (by omega);refine⟨a,b,c,?_,A,B,C⟩
 match f,j,l,o,p with
 |[x,y,z],_,l,o,p=>
  rw[Option.some.inj (show some x=some _ from l),Option.some.inj (show some y=some _ from o),Option.some.inj (show some z=some _ from p)]
theorem FK {v:Value}(h:v.cells.toList.length≠1):∃c,v=.agg c:=by
 cases v<;>first |exact⟨_,rfl⟩|exact absurd rfl h
end
