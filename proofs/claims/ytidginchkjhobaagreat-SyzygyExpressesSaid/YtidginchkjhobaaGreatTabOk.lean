/- The whole table is sound. -/
import Derived.Test.YtidginchkjhobaaGreatTab
import Derived.Test.YtidginchkjhobaaGreatNum
set_option maxRecDepth 100000
set_option maxHeartbeats 16000000
namespace Go.Proofs.YtidginchkjhobaaGreat
open Go.Ev
theorem Lb:(TL.m fun k _=>(Tryz.prog.funcs[k]?).bind (tO Tryz.prog))=TL.m fun _ x=>some x:=by kernel_rfl
theorem xx {f:Nat}:∀{t:TT Vu},(t.m fun k _=>(Tryz.prog.funcs[k]?).bind (tO Tryz.prog))=(t.m fun _ x=>some x)->∀d,t.gt f=some d->PY Tryz.prog f d
 |.l k x,h,d,hx=>by
  injection h with _ h;unfold TT.gt at hx;cases c:Nat.beq f k with
  |true=>
   rw[c,cond_true,Zb]at hx;rw[Zl c,<-hx];exact okF h
  |false=>
   rw[c,cond_false]at hx;cases hx
 |.n k a b,h,d,hx=>by
  injection h with _ h1 h2;unfold TT.gt at hx;cases c:Nat.blt f k with
  |true=>
   rw[c,cond_true]at hx;exact xx h1 d hx
  |false=>
   rw[c,cond_false]at hx;exact xx h2 d hx
theorem LX:∀f a,X f=some a->PY Tryz.prog f a:=fun _=>xx Lb
end Go.Proofs.YtidginchkjhobaaGreat
