/- For every input the law DivisionMatchesReference returns true, and its arguments read behind the call as they read before. Conditions: none but those of the given row. -/
import Derived.Test.YtefpgecinlekpaaGreatOpen
import Derived.Test.YtefpgecinlekpaaGreatLaw3
set_option maxRecDepth 100000
namespace Go.Proofs.YtefpgecinlekpaaGreat
open Go.Ev Go.ChangeShapes Go.WideShapes Go.ChangeAt Go.RowKit
theorem Tryz.own:ownKnob Tryz.prog.godebug=none:=by kernel_rfl
theorem Tryz.laidOut:laidOutB Tryz.prog=true:=by kernel_rfl
theorem qN:∀b,¬Live (fun _=>False) μ0 Go.Ev.h0 b:=by
 intro b a;rcases a with a|⟨id,QW,a,-⟩
 ·exact a
 ·cases a
theorem Sc (Q:Os)(c:Q.Started)(H:Type)(enc:TypeId×Value->H):
  ReturnsInHanded {} Tryz.checked Q 3 .any (Rows.divisionMatchesReferenceSpec.pre6 enc Tryz.prog Tryz.f3 Rows.divisionMatchesReferenceRow.domain false) (Rows.divisionMatchesReferenceSpec.post enc Tryz.prog Tryz.f3 false true false false):=by
 refine returnsInHanded_of_change (C:=Tryz.checked) Tryz.own c (by kernel_rfl) Tryz.func3
  (ChangeSpec.witness6 (enc:=enc) (C:=Tryz.checked) false ⟨#[],#[.agg #[.slice none 0 0],.agg #[.slice none 0 0,.int .u8 0],.slice none 0 0],[]⟩ 8 (by kernel_rfl) (by kernel_rfl) (by kernel_rfl) (by kernel_rfl)) ?_
 intro W i args V gs m b L M _;have a:∀(j:Nat) t v,Tryz.f3.params[j]? =some t->args[j]? =some v->Value.okWide Tryz.prog W .any i t v:=b;have d:=L;obtain⟨p,q,l,hV,rfl,a0,a1⟩:=L;have J:DataW.TrodAll enc Tryz.prog W 0 (fun _=>true) true Tryz.f3.params.toList args.toList V p:=l;rw[Tryz.params3]at J a;obtain⟨v0,v1,v2,d0,d1,d2,p0,p1,p2,rfl,rfl,rfl,N,O,P⟩:=trodAll_three J;obtain⟨rfl,rfl⟩:=trodVars_none hV;obtain⟨G,rfl,a3⟩:=okWide_struct Tryz.underlying24 (a 0 24 v0 rfl rfl);obtain⟨I,rfl,a4⟩:=okWide_struct Tryz.underlying27 (a 1 27 v1 rfl rfl);obtain⟨U,s2,t2,rfl⟩:=okWide_slice Tryz.underlying25 (a 2 25 v2 rfl rfl);clear l b;simp only[ZN]at d;have f:∀x∈p0++(p1++p2),x.block<W.heap.size:=fun x g=>by simpa using d.lt x (by simpa using g)
 have j0:=N;have j1:=O;have j2:=P;obtain⟨n0,Y⟩:=j0;obtain⟨n1,Z⟩:=j1;obtain⟨n2,f2⟩:=j2;obtain⟨R,R0,X,D,s⟩:=EX qN Y;obtain⟨S,L1,k,e1,hk,E,u⟩:=F7 qN Z;obtain⟨x2,L2,e2,F,y⟩:=EY qN f2;have g0:G=[R].toArray:=by rw[<-X];simp[Value.cells]
 have g1:I=[S,.int .u8 (Int.ofNat k)].toArray:=by rw[<-e1];simp[Value.cells]
 simp only[Value.cells,ZF,and_true]at e2;subst e2;obtain⟨lo,o,w,hO,so,T,A,B⟩:=vt k;obtain⟨K,n,hr⟩:=zd Cz Ey ql s u y hO so T A B;have z:=((FF K n).pure _ _ _ hr).1 W (fun _=>False) [.agg G,.agg I,.slice U s2 t2] (fun _ hb=>hb.elim)
  (.cons ⟨[R],by rw[g0],.cons (XP.p _ _ D) .nil⟩ (.cons ⟨[S,.int .u8 (Int.ofNat k)],by rw[g1],.cons (XP.p _ _ E) (.cons (XP.p _ _ (.int _ _)) .nil)⟩ (.cons (XP.p _ _ F) .nil)))
 refine z.mono fun e W' ⟨v,he,A,r⟩=> ?_
 subst he;obtain rfl:=A.SU;refine⟨_,rfl,_,_,_,[],_,[],d,?_,trodAll_mk3 (Below.trod Tryz.laidOut (by kernel_rfl) (of_decide_eq_true (by kernel_rfl)) N r (fun x g=>f x (by simp[g]))) (Below.trod Tryz.laidOut (by kernel_rfl) (of_decide_eq_true (by kernel_rfl)) O r (fun x g=>f x (by simp[g]))) (Below.trod Tryz.laidOut (by kernel_rfl) (of_decide_eq_true (by kernel_rfl)) P r (fun x g=>f x (by simp[g]))),rfl,r.frame _,fun h=>by cases h⟩;exact trodAll_mk1 (shut_bool Tryz.underlying4 true)
theorem divisionMatchesReference_holds:Rows.DivisionMatchesReferenceSaid:=
 OpenClaim.holds_of_wide 3 Tryz.f3 rfl rfl rfl rfl rfl rfl rfl ⟨rfl,rfl,rfl,rfl,rfl⟩ rfl rfl rfl rfl rfl (by kernel_rfl) Tryz.func3 (by kernel_rfl)
  (of_decide_eq_true (by kernel_rfl)) (by unfold Func.isWrapper;first |(rw[if_pos (by decide+kernel)];kernel_rfl)|(rw[if_neg (by decide+kernel)];exact⟨rfl,rfl⟩))
  (fun c a H b _=>Sc c a H b)
end Go.Proofs.YtefpgecinlekpaaGreat
