/- The whole table is sound. -/
import Derived.Test.YtidginchkjhobaaGreatTab
import Derived.Test.YtidginchkjhobaaGreatEvTop
set_option maxRecDepth 100000
set_option maxHeartbeats 16000000
namespace Go.Proofs.YtidginchkjhobaaGreat
open Go.Ev
theorem EF:(TL.m fun k _=>(Tryz.prog.funcs[k]?).bind (oc Tryz.prog))=TL.m fun _ x=>some x:=by kernel_rfl
theorem rM {f:Nat}:∀{t:TT Vb},(t.m fun k _=>(Tryz.prog.funcs[k]?).bind (oc Tryz.prog))=(t.m fun _ x=>some x)->∀d,t.gt f=some d->QK Tryz.prog f d
 |.l k x,h,d,hx=>by
  injection h with _ h;unfold TT.gt at hx;cases c:Nat.beq f k with
  |true=>
   rw[c,cond_true,Za]at hx;rw[Zl c,<-hx];exact okF h
  |false=>
   rw[c,cond_false]at hx;cases hx
 |.n k a b,h,d,hx=>by
  injection h with _ h1 h2;unfold TT.gt at hx;cases c:Nat.blt f k with
  |true=>
   rw[c,cond_true]at hx;exact rM h1 d hx
  |false=>
   rw[c,cond_false]at hx;exact rM h2 d hx
theorem E6:∀f a,X f=some a->QK Tryz.prog f a:=fun _=>rM EF
end Go.Proofs.YtidginchkjhobaaGreat
