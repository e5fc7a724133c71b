/- For every input the law DivisionBases returns true, and its arguments read behind the call as they read before. Conditions: none but those of the given row. -/
import Derived.Test.YtefpgecinlekpaaGreatOpen
import Derived.Test.YtefpgecinlekpaaGreatLaw5
set_option maxRecDepth 100000
namespace Go.Proofs.YtefpgecinlekpaaGreat
open Go.Ev Go.ChangeShapes Go.WideShapes Go.ChangeAt Go.RowKit
theorem Tryz.own:ownKnob Tryz.prog.godebug=none:=by kernel_rfl
theorem Tryz.laidOut:laidOutB Tryz.prog=true:=by kernel_rfl
theorem noLive:∀b,¬Live (fun _=>False) μ0 Go.Ev.h0 b:=by
 intro b hb
 rcases hb with hb|⟨id,blk,hb,-⟩
 ·exact hb
 ·cases hb
theorem divisionBases_lifted (os:Os)(started:os.Started)(H:Type)(enc:TypeId×Value->H):
  ReturnsInHanded {} Tryz.checked os 5 .any (Rows.divisionBasesSpec.pre6 enc Tryz.prog Tryz.f5 Rows.divisionBasesRow.domain false) (Rows.divisionBasesSpec.post enc Tryz.prog Tryz.f5 false true false false):=by
 refine returnsInHanded_of_change (C:=Tryz.checked) Tryz.own started (by kernel_rfl) Tryz.func5
  (ChangeSpec.witness6 (enc:=enc) (C:=Tryz.checked) false ⟨#[],#[.agg #[.slice none 0 0],.agg #[.slice none 0 0,.int .u8 0],.int .i8 0],[]⟩ 8 (by kernel_rfl) (by kernel_rfl) (by kernel_rfl) (by kernel_rfl)) ?_
 intro W base args ds gs before hval0 hW hcnd _
 have hval:∀(j:Nat) t v,Tryz.f5.params[j]? =some t->args[j]? =some v->Value.okWide Tryz.prog W .any base t v:=hval0
 have hW':=hW
 obtain⟨p,q,hA0,hV,rfl,hfz,hnd⟩:=hW
 have hA:DataW.TrodAll enc Tryz.prog W 0 (fun _=>true) true Tryz.f5.params.toList args.toList ds p:=hA0
 rw[Tryz.params5]at hA hval
 obtain⟨v0,v1,v2,d0,d1,d2,p0,p1,p2,rfl,rfl,rfl,k0,k1,k2⟩:=trodAll_three hA
 obtain⟨rfl,rfl⟩:=trodVars_none hV
 obtain⟨c0,rfl,hs0⟩:=okWide_struct Tryz.underlying24 (hval 0 24 v0 rfl rfl)
 obtain⟨c1,rfl,hs1⟩:=okWide_struct Tryz.underlying27 (hval 1 27 v1 rfl rfl)
 obtain⟨m2,rfl⟩:=okWide_int Tryz.underlying71 (hval 2 71 v2 rfl rfl)
 clear hA0 hval0
 simp only[ZO]at hW'
 have hlt:∀x∈p0++(p1++p2),x.block<W.heap.size:=fun x hx=>by simpa using hW'.lt x (by simpa using hx)
 have j0:=k0
 have j1:=k1
 have j2:=k2
 obtain⟨n0,f0⟩:=j0
 obtain⟨n1,f1⟩:=j1
 obtain⟨n2,f2⟩:=j2
 obtain⟨x0,R0,e0,hx0,hR0⟩:=rawP noLive f0
 obtain⟨x1,L1,k,e1,hk,hx1,hR1⟩:=rawG noLive f1
 obtain⟨m,e2,-,hw⟩:=DataW.trod_int Tryz.underlying71 f2
 have hr2:=wf_i8 hw
 have g0:c0=[x0].toArray:=by rw[<-e0];simp[Value.cells]
 have g1:c1=[x1,.int .u8 (Int.ofNat k)].toArray:=by rw[<-e1];simp[Value.cells]
 simp only[Value.cells,ZI,and_true]at e2
 obtain rfl:m2=m:=by simpa using e2
 obtain⟨lo,o,w,hO,so,OL,hv⟩:=order_ret k
 obtain⟨K,n,hr⟩:=law5_ret BB_stdM sanity_ret hR0 hR1 hr2.1 hr2.2 hO so OL hv
 have hcc:=((BB_ok K n).pure _ _ _ hr).1 W (fun _=>False) [.agg c0,.agg c1,.int .i8 m2] (fun _ hb=>hb.elim)
  (.cons ⟨[x0],by rw[g0],.cons (RepD.p _ _ hx0) .nil⟩ (.cons ⟨[x1,.int .u8 (Int.ofNat k)],by rw[g1],.cons (RepD.p _ _ hx1) (.cons (RepD.p _ _ (.int _ _)) .nil)⟩ (.cons (RepD.p _ _ (.int _ _)) .nil)))
 refine hcc.mono fun e W' ⟨v,he,hv,hB⟩=> ?_
 subst he
 obtain rfl:=hv.Tc
 refine⟨_,rfl,_,_,_,[],_,[],hW',?_,trodAll_mk3 (Below.trod Tryz.laidOut (by kernel_rfl) (of_decide_eq_true (by kernel_rfl)) k0 hB (fun x hx=>hlt x (by simp[hx]))) (Below.trod Tryz.laidOut (by kernel_rfl) (of_decide_eq_true (by kernel_rfl)) k1 hB (fun x hx=>hlt x (by simp[hx]))) (Below.trod Tryz.laidOut (by kernel_rfl) (of_decide_eq_true (by kernel_rfl)) k2 hB (fun x hx=>hlt x (by simp[hx]))),rfl,hB.frame _,fun h=>by cases h⟩
 exact trodAll_mk1 (shut_bool Tryz.underlying4 true)
theorem divisionBases_holds:Rows.DivisionBasesSaid:=
 OpenClaim.holds_of_wide 5 Tryz.f5 rfl rfl rfl rfl rfl rfl rfl ⟨rfl,rfl,rfl,rfl,rfl⟩ rfl rfl rfl rfl rfl (by kernel_rfl) Tryz.func5 (by kernel_rfl)
  (of_decide_eq_true (by kernel_rfl)) (by unfold Func.isWrapper;first |(rw[if_pos (by decide+kernel)];kernel_rfl)|(rw[if_neg (by decide+kernel)];exact⟨rfl,rfl⟩))
  (fun os started H enc _=>divisionBases_lifted os started H enc)
end Go.Proofs.YtefpgecinlekpaaGreat
