/- The whole table is sound. -/
import Derived.Test.YtidginchkjhobaaGreatTab
import Derived.Test.YtidginchkjhobaaGreatEvTop
set_option maxRecDepth 100000
set_option maxHeartbeats 16000000
namespace Go.Proofs.YtidginchkjhobaaGreat
open Go.Ev
theorem Jb:(TL.m fun k _=>(Tryz.prog.funcs[k]?).bind (rJ Tryz.prog))=TL.m fun _ x=>some x:=by kernel_rfl
theorem vu {f:Nat}:∀{t:TT Vl},(t.m fun k _=>(Tryz.prog.funcs[k]?).bind (rJ Tryz.prog))=(t.m fun _ x=>some x)->∀d,t.gt f=some d->PB Tryz.prog f d
 |.l k x,h,d,hx=>by
  injection h with _ h;unfold TT.gt at hx;cases c:Nat.beq f k with
  |true=>
   rw[c,cond_true,Za]at hx;rw[Zl c,<-hx];exact okF h
  |false=>
   rw[c,cond_false]at hx;cases hx
 |.n k a b,h,d,hx=>by
  injection h with _ h1 h2;unfold TT.gt at hx;cases c:Nat.blt f k with
  |true=>
   rw[c,cond_true]at hx;exact vu h1 d hx
  |false=>
   rw[c,cond_false]at hx;exact vu h2 d hx
theorem JU:∀f a,X f=some a->PB Tryz.prog f a:=fun _=>vu Jb
end Go.Proofs.YtidginchkjhobaaGreat
