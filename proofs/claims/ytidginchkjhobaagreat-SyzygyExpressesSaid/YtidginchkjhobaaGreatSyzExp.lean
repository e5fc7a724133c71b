/- For every input the law SyzygyExpresses returns true, and its arguments read behind the call as they read before. Conditions: none but those of the given row. -/
import Derived.Test.YtidginchkjhobaaGreatOpen
set_option maxRecDepth 100000
namespace Go.Proofs.YtidginchkjhobaaGreat
open Go.Ev Go.ChangeShapes Go.WideShapes Go.ChangeAt Go.RowKit
theorem Tryz.own:ownKnob Tryz.prog.godebug=none:=by kernel_rfl
theorem Tryz.laidOut:laidOutB Tryz.prog=true:=by kernel_rfl
theorem D8:∀b,¬Live (fun _=>False) μ0 Go.Ev.h0 b:=by
 intro b a;rcases a with a|⟨id,RV,a,-⟩
 ·exact a
 ·cases a
theorem P3 (V:Os)(b:V.Started)(H:Type)(enc:TypeId×Value->H):
  ReturnsInHanded {} Tryz.checked V 6 .any (Rows.syzygyExpressesSpec.pre6 enc Tryz.prog Tryz.f6 Rows.syzygyExpressesRow.domain false) (Rows.syzygyExpressesSpec.post enc Tryz.prog Tryz.f6 false true false false):=by
 refine returnsInHanded_of_change (C:=Tryz.checked) Tryz.own b (by kernel_rfl) Tryz.func6
  (ChangeSpec.witness6 (enc:=enc) (C:=Tryz.checked) false ⟨#[],#[.agg #[.slice none 0 0,.int .u8 0],.agg #[.slice none 0 0,.slice none 0 0,.slice none 0 0],.agg #[.int .u8 0,.int .u8 0,.int .u8 0]],[]⟩ 8 (by kernel_rfl) (by kernel_rfl) (by kernel_rfl) (by kernel_rfl)) ?_
 intro W i args ds gs m a Q R _;have d:∀(j:Nat) t v,Tryz.f6.params[j]? =some t->args[j]? =some v->Value.okWide Tryz.prog W .any i t v:=a;have f:=Q;obtain⟨p,q,k,hV,rfl,a0,a1⟩:=Q;have P:DataW.TrodAll enc Tryz.prog W 0 (fun _=>true) true Tryz.f6.params.toList args.toList ds p:=k;rw[Tryz.params6]at P d;obtain⟨v0,v1,v2,d0,d1,d2,p0,p1,p2,rfl,rfl,rfl,S,T,U⟩:=trodAll_three P;obtain⟨rfl,rfl⟩:=trodVars_none hV;obtain⟨M,rfl,a2⟩:=okWide_struct Tryz.underlying24 (d 0 24 v0 rfl rfl);clear k a;simp only[ZJ]at f;have g:∀x∈p0++(p1++p2),x.block<W.heap.size:=fun x c=>by simpa using f.lt x (by simpa using c)
 have j0:=S;have j1:=T;have j2:=U;obtain⟨n0,f0⟩:=j0;obtain⟨n1,f1⟩:=j1;obtain⟨n2,f2⟩:=j2;obtain⟨x,L,l,e0,u,c,hL⟩:=MO D8 f0;obtain⟨y0,y1,y2,q0,q1,q2,e1,G,I,J,w,y,z⟩:=MP D8 f1;obtain⟨X,Y,Z,e2,A,B,D⟩:=Lq f2;obtain⟨N,rfl⟩:=FK (v:=v1) (by rw[e1];simp);obtain⟨O,rfl⟩:=FK (v:=v2) (by rw[e2];simp);have g0:M=[x,.int .u8 (Int.ofNat l)].toArray:=by rw[<-e0];simp[Value.cells]
 have g1:N=[y0,y1,y2].toArray:=by rw[<-e1];simp[Value.cells]
 have g2:O=[.int .u8 (Int.ofNat X),.int .u8 (Int.ofNat Y),.int .u8 (Int.ofNat Z)].toArray:=by rw[<-e2];simp[Value.cells]
 obtain⟨lo,r,so,E,F⟩:=CU u;obtain⟨K,n,hr⟩:=Es KA Ib vY hL r so E F w y z A B D;have s:=((Me K n).pure _ _ _ hr).1 W (fun _=>False) [.agg M,.agg N,.agg O] (fun _ hb=>hb.elim)
  (.cons ⟨[x,.int .u8 (Int.ofNat l)],by rw[g0],.cons (XH.p _ _ c) (.cons (XH.p _ _ (.int _ _)) .nil)⟩ (.cons ⟨[y0,y1,y2],by rw[g1],.cons (XH.p _ _ G) (.cons (XH.p _ _ I) (.cons (XH.p _ _ J) .nil))⟩ (.cons ⟨[.int .u8 (Int.ofNat X),.int .u8 (Int.ofNat Y),.int .u8 (Int.ofNat Z)],by rw[g2],.cons (XH.p _ _ (.int _ _)) (.cons (XH.p _ _ (.int _ _)) (.cons (XH.p _ _ (.int _ _)) .nil))⟩ .nil)))
 refine s.mono fun e W' ⟨v,he,E,o⟩=> ?_
 subst he;obtain rfl:=E.RK;refine⟨_,rfl,_,_,_,[],_,[],f,?_,trodAll_mk3 (Below.trod Tryz.laidOut (by kernel_rfl) (of_decide_eq_true (by kernel_rfl)) S o (fun x c=>g x (by simp[c]))) (Below.trod Tryz.laidOut (by kernel_rfl) (of_decide_eq_true (by kernel_rfl)) T o (fun x c=>g x (by simp[c]))) (Below.trod Tryz.laidOut (by kernel_rfl) (of_decide_eq_true (by kernel_rfl)) U o (fun x c=>g x (by simp[c]))),rfl,o.frame _,fun h=>by cases h⟩;exact trodAll_mk1 (shut_bool Tryz.underlying4 true)
theorem syzygyExpresses_holds:Rows.SyzygyExpressesSaid:=
 OpenClaim.holds_of_wide 6 Tryz.f6 rfl rfl rfl rfl rfl rfl rfl ⟨rfl,rfl,rfl,rfl,rfl⟩ rfl rfl rfl rfl rfl (by kernel_rfl) Tryz.func6 (by kernel_rfl)
  (of_decide_eq_true (by kernel_rfl)) (by unfold Func.isWrapper;first |(rw[if_pos (by decide+kernel)];kernel_rfl)|(rw[if_neg (by decide+kernel)];exact⟨rfl,rfl⟩))
  (fun c a H b _=>P3 c a H b)
end Go.Proofs.YtidginchkjhobaaGreat
