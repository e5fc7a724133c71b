/- The program's own examples answer true; the orders of the laws. -/
import Derived.Test.YtefpgecinlekpaaGreatBase
import Derived.Test.YtefpgecinlekpaaGreatGrC
set_option maxRecDepth 100000
namespace Go.Proofs.YtefpgecinlekpaaGreat
open Go.Ev Go.Num
theorem uJ:(BB.E 1000 40).pure 7 []=some (.one (.bool true)):=by kernel_rfl
theorem ql:Xs BB 7 [] (.one (.bool true)):=⟨1000,40,uJ⟩
theorem BQ:Xs BB 47 [] (.one (.Xv (([]:List (List Int)).map Ua))):=⟨1000,20,by kernel_rfl⟩
theorem rk:UA BB 44 [] [] (.one (.own 0 0 0 1)) [⟨false,0,8,[(Ua [1,1,1,1,1,1,1,1]).map .p],false,50⟩]:=⟨1000,20,by kernel_rfl⟩
theorem ng:Xs BB 45 [] (.one (.Xv (nP.map Ua))):=⟨1000,20,by kernel_rfl⟩
theorem wj:Xs BB 46 [.one (.int .u8 (.ofNat 1))] (.one (.Xv (ED.map Ua))):=⟨1000,20,by kernel_rfl⟩
theorem wh:Xs BB 46 [.one (.int .u8 (.ofNat 2))] (.one (.Xv (EC.map Ua))):=⟨1000,20,by kernel_rfl⟩
theorem BP:Xs BB 57 [.one (.Xv (([]:List (List Int)).map Ua))] (.one (.bool true))/\Xs BB 49 [.one (.Xv (([]:List (List Int)).map Ua))] (.one (.bool true)):=⟨⟨1000,20,by kernel_rfl⟩,⟨1000,20,by kernel_rfl⟩⟩
theorem rj:Xs BB 57 [.one (.Xv (Fb.map Ua))] (.one (.bool true))/\Xs BB 49 [.one (.Xv (Fb.map Ua))] (.one (.bool true)):=⟨⟨1000,20,by kernel_rfl⟩,⟨1000,20,by kernel_rfl⟩⟩
theorem nf:Xs BB 57 [.one (.Xv (nP.map Ua))] (.one (.bool true))/\Xs BB 49 [.one (.Xv (nP.map Ua))] (.one (.bool true)):=⟨⟨1000,20,by kernel_rfl⟩,⟨1000,20,by kernel_rfl⟩⟩
theorem wi:Xs BB 57 [.one (.Xv (ED.map Ua))] (.one (.bool true))/\Xs BB 49 [.one (.Xv (ED.map Ua))] (.one (.bool true)):=⟨⟨1000,20,by kernel_rfl⟩,⟨1000,20,by kernel_rfl⟩⟩
theorem wg:Xs BB 57 [.one (.Xv (EC.map Ua))] (.one (.bool true))/\Xs BB 49 [.one (.Xv (EC.map Ua))] (.one (.bool true)):=⟨⟨1000,20,by kernel_rfl⟩,⟨1000,20,by kernel_rfl⟩⟩
theorem vt (n:Nat):∃d o w,Xs BB 10 [.one (.int .u8 (.ofNat n))] (.one d)/\S6 d o/\lZ o w/\Xs BB 57 [.one d] (.one (.bool true))/\Xs BB 49 [.one d] (.one (.bool true)):=by
 have b:Std BB:=uo.toStd;have c:U9 .u8 (.ofNat n) (.ofNat 5)=some (.p (.int .u8 (.ofNat (n%5)))):=rfl;have e:n%5<5:=ZS _ (by decide);rcases(by omega:n%5=1\/n%5=2\/n%5=3\/n%5=4\/n%5=0)with h|h|h|h|h
 ·refine⟨_,Fb,_,Xs.of (b.X6 _ _ rfl) ((rk.Xi.and b.Xi).mono fun E K ⟨e1,a⟩=> ?_),.Xv,.gr,rj⟩;simp(decide:=true)only[Xp,Xq,WR,reduceIte,x10,a,XW,c,h,e1];rfl
 ·refine⟨_,nP,_,Xs.of (b.X6 _ _ rfl) ((ng.Xi.and b.Xi).mono fun E K ⟨e1,a⟩=> ?_),.Xv,.rev,nf⟩;simp(decide:=true)only[Xp,Xq,WR,reduceIte,x10,a,XW,c,h,e1]
 ·refine⟨_,ED,_,Xs.of (b.X6 _ _ rfl) ((wj.Xi.and b.Xi).mono fun E K ⟨e1,a⟩=> ?_),.Xv,.e1,wi⟩;simp(decide:=true)only[Xp,Xq,WR,reduceIte,x10,a,XW,c,h,e1]
 ·refine⟨_,EC,_,Xs.of (b.X6 _ _ rfl) ((wh.Xi.and b.Xi).mono fun E K ⟨e1,a⟩=> ?_),.Xv,.e2,wg⟩;simp(decide:=true)only[Xp,Xq,WR,reduceIte,x10,a,XW,c,h,e1]
 ·refine⟨_,[],_,Xs.of (b.X6 _ _ rfl) ((BQ.Xi.and b.Xi).mono fun E K ⟨e1,a⟩=> ?_),.Xv,.lex,BP⟩;simp(decide:=true)only[Xp,Xq,WR,reduceIte,x10,a,XW,c,h,e1]
end Go.Proofs.YtefpgecinlekpaaGreat
