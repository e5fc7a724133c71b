/- For every input the law SyzygyErrors returns true, and its arguments read behind the call as they read before. Conditions: none but those of the given row. -/
import Derived.Test.YtidginchkjhobaaGreatOpen
set_option maxRecDepth 100000
namespace Go.Proofs.YtidginchkjhobaaGreat
open Go.Ev Go.ChangeShapes Go.WideShapes Go.ChangeAt Go.RowKit
theorem Tryz.own:ownKnob Tryz.prog.godebug=none:=by kernel_rfl
theorem Tryz.laidOut:laidOutB Tryz.prog=true:=by kernel_rfl
theorem re:∀b,¬Live (fun _=>False) μ0 Go.Ev.h0 b:=by
 intro b a;rcases a with a|⟨id,QG,a,-⟩
 ·exact a
 ·cases a
theorem OR (S:Os)(c:S.Started)(H:Type)(enc:TypeId×Value->H):
  ReturnsInHanded {} Tryz.checked S 5 .any (Rows.syzygyErrorsSpec.pre6 enc Tryz.prog Tryz.f5 Rows.syzygyErrorsRow.domain false) (Rows.syzygyErrorsSpec.post enc Tryz.prog Tryz.f5 false true false false):=by
 refine returnsInHanded_of_change (C:=Tryz.checked) Tryz.own c (by kernel_rfl) Tryz.func5
  (ChangeSpec.witness6 (enc:=enc) (C:=Tryz.checked) false ⟨#[],#[.slice none 0 0,.agg #[.slice none 0 0,.int .u8 0],.agg #[.slice none 0 0,.slice none 0 0,.slice none 0 0]],[]⟩ 8 (by kernel_rfl) (by kernel_rfl) (by kernel_rfl) (by kernel_rfl)) ?_
 intro W i args ds gs m b N O _;have a:∀(j:Nat) t v,Tryz.f5.params[j]? =some t->args[j]? =some v->Value.okWide Tryz.prog W .any i t v:=b;have f:=N;obtain⟨p,q,k,hV,rfl,a0,a1⟩:=N;have M:DataW.TrodAll enc Tryz.prog W 0 (fun _=>true) true Tryz.f5.params.toList args.toList ds p:=k;rw[Tryz.params5]at M a;obtain⟨v0,v1,v2,d0,d1,d2,p0,p1,p2,rfl,rfl,rfl,P,Q,R⟩:=trodAll_three M;obtain⟨rfl,rfl⟩:=trodVars_none hV;obtain⟨T,V,U,rfl⟩:=okWide_slice Tryz.underlying40 (a 0 40 v0 rfl rfl);obtain⟨G,rfl,a2⟩:=okWide_struct Tryz.underlying24 (a 1 24 v1 rfl rfl);clear k b;simp only[ZS]at f;have g:∀x∈p0++(p1++p2),x.block<W.heap.size:=fun x d=>by simpa using f.lt x (by simpa using d)
 have j0:=P;have j1:=Q;have j2:=R;obtain⟨n0,f0⟩:=j0;obtain⟨n1,f1⟩:=j1;obtain⟨n2,f2⟩:=j2;obtain⟨vo,lo,o,J,B,w,h8⟩:=FL re f0;obtain⟨x,L,l,e0,u,d,hL⟩:=FN re f1;obtain⟨X,Y,Z,q0,q1,q2,e1,D,E,F,y,z,A⟩:=FO re f2;obtain⟨I,rfl⟩:=DX (v:=v2) (by rw[e1];simp);have g0:G=[x,.int .u8 (Int.ofNat l)].toArray:=by rw[<-e0];simp[Value.cells]
 have g1:I=[X,Y,Z].toArray:=by rw[<-e1];simp[Value.cells]
 simp only[Value.cells,ZJ,and_true]at J;obtain rfl:vo=.slice T V U:=by simpa using J.symm
 obtain⟨K,n,hr⟩:=zd Eg Co qF w h8 hL u y z A;have s:=((Fh K n).pure _ _ _ hr).1 W (fun _=>False) [.slice T V U,.agg G,.agg I] (fun _ hb=>hb.elim)
  (.cons (XL.p _ _ B) (.cons ⟨[x,.int .u8 (Int.ofNat l)],by rw[g0],.cons (XL.p _ _ d) (.cons (XL.p _ _ (.int _ _)) .nil)⟩ (.cons ⟨[X,Y,Z],by rw[g1],.cons (XL.p _ _ D) (.cons (XL.p _ _ E) (.cons (XL.p _ _ F) .nil))⟩ .nil)))
 refine s.mono fun e W' ⟨v,he,hv,r⟩=> ?_
 subst he;obtain rfl:=hv.SU;refine⟨_,rfl,_,_,_,[],_,[],f,?_,trodAll_mk3 (Below.trod Tryz.laidOut (by kernel_rfl) (of_decide_eq_true (by kernel_rfl)) P r (fun x d=>g x (by simp[d]))) (Below.trod Tryz.laidOut (by kernel_rfl) (of_decide_eq_true (by kernel_rfl)) Q r (fun x d=>g x (by simp[d]))) (Below.trod Tryz.laidOut (by kernel_rfl) (of_decide_eq_true (by kernel_rfl)) R r (fun x d=>g x (by simp[d]))),rfl,r.frame _,fun h=>by cases h⟩;exact trodAll_mk1 (shut_bool Tryz.underlying4 true)
theorem syzygyErrors_holds:Rows.SyzygyErrorsSaid:=
 OpenClaim.holds_of_wide 5 Tryz.f5 rfl rfl rfl rfl rfl rfl rfl ⟨rfl,rfl,rfl,rfl,rfl⟩ rfl rfl rfl rfl rfl (by kernel_rfl) Tryz.func5 (by kernel_rfl)
  (of_decide_eq_true (by kernel_rfl)) (by unfold Func.isWrapper;first |(rw[if_pos (by decide+kernel)];kernel_rfl)|(rw[if_neg (by decide+kernel)];exact⟨rfl,rfl⟩))
  (fun c a H b _=>OR c a H b)
end Go.Proofs.YtidginchkjhobaaGreat
