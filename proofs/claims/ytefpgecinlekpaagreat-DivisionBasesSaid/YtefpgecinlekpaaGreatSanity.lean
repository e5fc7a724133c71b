/- The program's own examples answer true; the orders of the laws. -/
import Derived.Test.YtefpgecinlekpaaGreatBase
import Derived.Test.YtefpgecinlekpaaGreatGrC
set_option maxRecDepth 100000
namespace Go.Proofs.YtefpgecinlekpaaGreat
open Go.Ev Go.Num
theorem sanity_ev:(BB.E 1000 40).pure 7 []=some (.one (.bool true)):=by kernel_rfl
theorem sanity_ret:Ret BB 7 [] (.one (.bool true)):=⟨1000,40,sanity_ev⟩
theorem lex_ret:Ret BB 47 [] (.one (.lst (([]:List (List Int)).map U4))):=⟨1000,20,by kernel_rfl⟩
theorem graded_ret:Va BB 44 [] [] (.one (.own 0 0 0 1)) [⟨false,0,8,[(U4 [1,1,1,1,1,1,1,1]).map .p],false,50⟩]:=⟨1000,20,by kernel_rfl⟩
theorem reverse_ret:Ret BB 45 [] (.one (.lst (oRev.map U4))):=⟨1000,20,by kernel_rfl⟩
theorem elim1_ret:Ret BB 46 [.one (.int .u8 (.ofNat 1))] (.one (.lst (oE1.map U4))):=⟨1000,20,by kernel_rfl⟩
theorem elim2_ret:Ret BB 46 [.one (.int .u8 (.ofNat 2))] (.one (.lst (oE2.map U4))):=⟨1000,20,by kernel_rfl⟩
theorem lex_val:Ret BB 57 [.one (.lst (([]:List (List Int)).map U4))] (.one (.bool true)):=⟨1000,20,by kernel_rfl⟩
theorem graded_val:Ret BB 57 [.one (.lst (oGr.map U4))] (.one (.bool true)):=⟨1000,20,by kernel_rfl⟩
theorem reverse_val:Ret BB 57 [.one (.lst (oRev.map U4))] (.one (.bool true)):=⟨1000,20,by kernel_rfl⟩
theorem elim1_val:Ret BB 57 [.one (.lst (oE1.map U4))] (.one (.bool true)):=⟨1000,20,by kernel_rfl⟩
theorem elim2_val:Ret BB 57 [.one (.lst (oE2.map U4))] (.one (.bool true)):=⟨1000,20,by kernel_rfl⟩
theorem order_ret (n:Nat):∃lo o w,Ret BB 10 [.one (.int .u8 (.ofNat n))] (.one lo)/\IsO lo o/\OrdL o w/\Ret BB 57 [.one lo] (.one (.bool true)):=by
 have hB:Std BB:=BB_stdB.toStd
 have hr:V0 .u8 (.ofNat n) (.ofNat 5)=some (.p (.int .u8 (.ofNat (n%5)))):=rfl
 have hlt:n%5<5:=ZN _ (by decide)
 rcases(by omega:n%5=1\/n%5=2\/n%5=3\/n%5=4\/n%5=0)with h|h|h|h|h
 ·refine⟨_,oGr,_,Ret.of (hB.tab _ _ rfl) ((graded_ret.evt.and hB.evt).mono fun E K ⟨e1,hmd⟩=> ?_),.lst,.gr,graded_val⟩
  simp(decide:=true)only[EVS,EVN,EVH,reduceIte,x10,hmd,MDS,hr,h,e1]
  rfl
 ·refine⟨_,oRev,_,Ret.of (hB.tab _ _ rfl) ((reverse_ret.evt.and hB.evt).mono fun E K ⟨e1,hmd⟩=> ?_),.lst,.rev,reverse_val⟩
  simp(decide:=true)only[EVS,EVN,EVH,reduceIte,x10,hmd,MDS,hr,h,e1]
 ·refine⟨_,oE1,_,Ret.of (hB.tab _ _ rfl) ((elim1_ret.evt.and hB.evt).mono fun E K ⟨e1,hmd⟩=> ?_),.lst,.e1,elim1_val⟩
  simp(decide:=true)only[EVS,EVN,EVH,reduceIte,x10,hmd,MDS,hr,h,e1]
 ·refine⟨_,oE2,_,Ret.of (hB.tab _ _ rfl) ((elim2_ret.evt.and hB.evt).mono fun E K ⟨e1,hmd⟩=> ?_),.lst,.e2,elim2_val⟩
  simp(decide:=true)only[EVS,EVN,EVH,reduceIte,x10,hmd,MDS,hr,h,e1]
 ·refine⟨_,[],_,Ret.of (hB.tab _ _ rfl) ((lex_ret.evt.and hB.evt).mono fun E K ⟨e1,hmd⟩=> ?_),.lst,.lex,lex_val⟩
  simp(decide:=true)only[EVS,EVN,EVH,reduceIte,x10,hmd,MDS,hr,h,e1]
end Go.Proofs.YtefpgecinlekpaaGreat
