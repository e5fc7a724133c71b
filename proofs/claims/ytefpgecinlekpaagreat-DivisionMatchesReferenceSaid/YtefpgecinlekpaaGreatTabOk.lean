/- The whole table is sound. -/
import Derived.Test.YtefpgecinlekpaaGreatTab
import Derived.Test.YtefpgecinlekpaaGreatEvTop
set_option maxRecDepth 100000
set_option maxHeartbeats 16000000
namespace Go.Proofs.YtefpgecinlekpaaGreat
open Go.Ev
theorem EK:(TL.m fun k _=>(Tryz.prog.funcs[k]?).bind (nU Tryz.prog))=TL.m fun _ x=>some x:=by kernel_rfl
theorem rp {f:Nat}:∀{t:TT W4},(t.m fun k _=>(Tryz.prog.funcs[k]?).bind (nU Tryz.prog))=(t.m fun _ x=>some x)->∀d,t.gt f=some d->QZ Tryz.prog f d
 |.l k x,h,d,hx=>by
  injection h with _ h;unfold TT.gt at hx;cases c:Nat.beq f k with
  |true=>
   rw[c,cond_true,Za]at hx;rw[Zm c,<-hx];exact okF h
  |false=>
   rw[c,cond_false]at hx;cases hx
 |.n k a b,h,d,hx=>by
  injection h with _ h1 h2;unfold TT.gt at hx;cases c:Nat.blt f k with
  |true=>
   rw[c,cond_true]at hx;exact rp h1 d hx
  |false=>
   rw[c,cond_false]at hx;exact rp h2 d hx
theorem Fp:∀f a,X f=some a->QZ Tryz.prog f a:=fun _=>rp EK
end Go.Proofs.YtefpgecinlekpaaGreat
