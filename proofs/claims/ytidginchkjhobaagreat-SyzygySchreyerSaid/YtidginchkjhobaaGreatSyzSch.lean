/- For every input the law SyzygySchreyer returns true, and its arguments read behind the call as they read before. Conditions: none but those of the given row. -/
import Derived.Test.YtidginchkjhobaaGreatOpen
set_option maxRecDepth 100000
namespace Go.Proofs.YtidginchkjhobaaGreat
open Go.Ev Go.ChangeShapes Go.WideShapes Go.ChangeAt Go.RowKit
theorem Tryz.own:ownKnob Tryz.prog.godebug=none:=by kernel_rfl
theorem Tryz.laidOut:laidOutB Tryz.prog=true:=by kernel_rfl
theorem Cb:∀b,¬Live (fun _=>False) μ0 Go.Ev.h0 b:=by
 intro b a;rcases a with a|⟨id,RH,a,-⟩
 ·exact a
 ·cases a
theorem Of (P:Os)(d:P.Started)(H:Type)(enc:TypeId×Value->H):
  ReturnsInHanded {} Tryz.checked P 4 .any (Rows.syzygySchreyerSpec.pre6 enc Tryz.prog Tryz.f4 Rows.syzygySchreyerRow.domain false) (Rows.syzygySchreyerSpec.post enc Tryz.prog Tryz.f4 false true false false):=by
 refine returnsInHanded_of_change (C:=Tryz.checked) Tryz.own d (by kernel_rfl) Tryz.func4
  (ChangeSpec.witness6 (enc:=enc) (C:=Tryz.checked) false ⟨#[],#[.agg #[.slice none 0 0,.int .u8 0],.agg #[.slice none 0 0],.int .i8 0],[]⟩ 8 (by kernel_rfl) (by kernel_rfl) (by kernel_rfl) (by kernel_rfl)) ?_
 intro W k args Q gs o b I J _;have a:∀(j:Nat) t v,Tryz.f4.params[j]? =some t->args[j]? =some v->Value.okWide Tryz.prog W .any k t v:=b;have g:=I;obtain⟨p,q,l,hV,rfl,a0,a1⟩:=I;have G:DataW.TrodAll enc Tryz.prog W 0 (fun _=>true) true Tryz.f4.params.toList args.toList Q p:=l;rw[Tryz.params4]at G a;obtain⟨v0,v1,v2,d0,d1,d2,p0,p1,p2,rfl,rfl,rfl,M,N,O⟩:=trodAll_three G;obtain⟨rfl,rfl⟩:=trodVars_none hV;obtain⟨E,rfl,a2⟩:=okWide_struct Tryz.underlying24 (a 0 24 v0 rfl rfl);obtain⟨F,rfl,a3⟩:=okWide_struct Tryz.underlying27 (a 1 27 v1 rfl rfl);obtain⟨m2,rfl⟩:=okWide_int Tryz.underlying38 (a 2 38 v2 rfl rfl);clear l b;simp only[ZE]at g;have i:∀x∈p0++(p1++p2),x.block<W.heap.size:=fun x f=>by simpa using g.lt x (by simpa using f)
 have j0:=M;have j1:=N;have j2:=O;obtain⟨n0,T⟩:=j0;obtain⟨n1,U⟩:=j1;obtain⟨n2,V⟩:=j2;obtain⟨x,L,m,S,A,f,Z⟩:=KL Cb T;obtain⟨y,R,e1,hy,hR⟩:=Js Cb U;obtain⟨c,e2,u,w⟩:=Jt n2 V;have X:E=[x,.int .u8 (Int.ofNat m)].toArray:=by rw[<-S];simp[Value.cells]
 have Y:F=[y].toArray:=by rw[<-e1];simp[Value.cells]
 simp only[Value.cells,ZH,and_true]at e2;obtain rfl:m2=c:=by simpa using e2
 obtain⟨lo,s,so,B,D⟩:=A3 A;obtain⟨K,n,hr⟩:=Cq IF F7 uo Z s so B D hR u w;have z:=((J5 K n).pure _ _ _ hr).1 W (fun _=>False) [.agg E,.agg F,.int .i8 m2] (fun _ hb=>hb.elim)
  (.cons ⟨[x,.int .u8 (Int.ofNat m)],by rw[X],.cons (XE.p _ _ f) (.cons (XE.p _ _ (.int _ _)) .nil)⟩ (.cons ⟨[y],by rw[Y],.cons (XE.p _ _ hy) .nil⟩ (.cons (XE.p _ _ (.int _ _)) .nil)))
 refine z.mono fun e W' ⟨v,he,B,r⟩=> ?_
 subst he;obtain rfl:=B.Rs;refine⟨_,rfl,_,_,_,[],_,[],g,?_,trodAll_mk3 (Below.trod Tryz.laidOut (by kernel_rfl) (of_decide_eq_true (by kernel_rfl)) M r (fun x f=>i x (by simp[f]))) (Below.trod Tryz.laidOut (by kernel_rfl) (of_decide_eq_true (by kernel_rfl)) N r (fun x f=>i x (by simp[f]))) (Below.trod Tryz.laidOut (by kernel_rfl) (of_decide_eq_true (by kernel_rfl)) O r (fun x f=>i x (by simp[f]))),rfl,r.frame _,fun h=>by cases h⟩;exact trodAll_mk1 (shut_bool Tryz.underlying4 true)
theorem syzygySchreyer_holds:Rows.SyzygySchreyerSaid:=
 OpenClaim.holds_of_wide 4 Tryz.f4 rfl rfl rfl rfl rfl rfl rfl ⟨rfl,rfl,rfl,rfl,rfl⟩ rfl rfl rfl rfl rfl (by kernel_rfl) Tryz.func4 (by kernel_rfl)
  (of_decide_eq_true (by kernel_rfl)) (by unfold Func.isWrapper;first |(rw[if_pos (by decide+kernel)];kernel_rfl)|(rw[if_neg (by decide+kernel)];exact⟨rfl,rfl⟩))
  (fun c a H b _=>Of c a H b)
end Go.Proofs.YtidginchkjhobaaGreat
