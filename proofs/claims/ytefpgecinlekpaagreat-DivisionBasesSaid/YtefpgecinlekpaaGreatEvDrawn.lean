/- The count of drawn answers never falls, whatever a machine does. -/
import Derived.Test.YtefpgecinlekpaaGreatZ
import Derived.Calls
namespace Go.Ev
open Go
theorem ask_drawn {α:Type}:∀(a:Ask α) (w:World),w.drawn<=(w.ask a).2.drawn:=by
 intro a
 induction a with
 |done a=>intro w;exact Zg _
 |ask what range k ih=>
  intro w
  unfold World.ask
  simp only[]
  split
  ·exact ih _ _
  ·exact ZC (Nat.le_succ w.drawn) (ih _ {w with drawn:=w.drawn+1})
theorem sys_drawn (w:World)(c:Sys):w.drawn<=(w.sys c).2.drawn:=by
 unfold World.sys
 have h:=ask_drawn (Kernel.perform c w.os) w
 generalize w.ask (Kernel.perform c w.os)=x at h
 obtain⟨⟨r,os⟩,w1⟩:=x
 cases r<;>first |exact Zg _|exact h
theorem viewStore_drawn {p:Program}{w w':World}{at_:Addr}{u:TypeId}{k:Addr}{v:Value}{a:Bool}{l:List Addr}(h:w.viewStore p at_ u k v a=.ok (w',l)):w'.drawn=w.drawn:=by
 unfold World.viewStore at h
 simp only[bind,Except.bind,pure,Except.pure]at h
 repeat' split at h
 all_goals first |cases h;rfl|cases h
theorem farStore_drawn {p:Program}{w w':World}{a:Addr}{v:Value}{at_:Bool}{l:List Addr}(h:w.farStore p a v at_=.ok (w',l)):w'.drawn=w.drawn:=by
 unfold World.farStore at h
 split at h
 ·split at h
  ·rename_i e;cases h;exact viewStore_drawn e
  ·cases h
 ·cases h
def resW {α:Type}:Result α->World
 | .ok _ w=>w
 | .halt _ w=>w
theorem run_drawn {α:Type}(p:Program):∀(s:Sem α) (w:World),w.drawn<=(resW (s.run p w)).drawn:=by
 intro s
 induction s with
 |pure a=>intro w;exact Zg _
 |load m a k ih=>
  intro w;unfold Sem.run
  split
  ·exact ih _ _
  ·split
   ·exact ih _ _
   ·exact Zg _
 |store m a v k ih=>
  intro w
  cases v<;>simp only[Sem.run]
  all_goals first
   |exact Zg _
   |(split
     ·split
      ·exact Zg _
      ·exact ih (w.setCell a _)
     ·split
      ·rename_i h
       have:=farStore_drawn h
       rw[<-this];exact ih _
      ·exact Zg _)
 |new o k ih=>intro w;exact ih _ {w with heap:=w.heap.push o}
 |shape r k ih=>intro w;exact ih _ _
 |freeze a n k ih=>
  intro w
  have :(w.freeze a n).drawn=w.drawn:=by unfold World.freeze;split<;>rfl
  rw[<-this];exact ih _
 |frozen a k ih=>intro w;exact ih _ _
 |getObj r k ih=>
  intro w;unfold Sem.run
  split
  ·exact Zg _
  ·exact ih _ _
  ·exact Zg _
 |setObj r o k ih=>
  intro w;unfold Sem.run
  split
  ·exact Zg _
  ·exact ih {w with heap:=w.heap.setIfInBounds r o}
  ·exact Zg _
 |choose q k ih=>
  intro w;unfold Sem.run
  split
  ·exact ih _ _
  ·exact ZC (Nat.le_succ w.drawn) (ih _ {w with drawn:=w.drawn+1})
 |sys c k ih=>intro w;exact ZC (sys_drawn w c) (ih _ _)
 |program k ih=>intro w;exact ih _ _
 |mark m k ih=>intro w;exact ih _
 |halt h=>intro w;exact Zg _
theorem W7 {α:Type}(p:Program):∀(s:Sem α) (w:World) (es:Array Event),w.drawn<=(resW (s.runT p w es).1).drawn:=by
 intro s
 induction s with
 |pure a=>intro w es;exact Zg _
 |load m a k ih=>
  intro w es;unfold Sem.runT
  split
  ·exact ih _ _ _
  ·split
   ·exact ih _ _ _
   ·exact Zg _
 |store m a v k ih=>
  intro w es
  cases v<;>simp only[Sem.runT]
  all_goals first
   |exact Zg _
   |(split
     ·split
      ·exact Zg _
      ·exact ih (w.setCell a _) _
     ·split
      ·rename_i h
       have:=farStore_drawn h
       rw[<-this];exact ih _ _
      ·exact Zg _)
 |new o k ih=>intro w es;exact ih _ {w with heap:=w.heap.push o} _
 |shape r k ih=>intro w es;exact ih _ _ _
 |freeze a n k ih=>
  intro w es
  have :(w.freeze a n).drawn=w.drawn:=by unfold World.freeze;split<;>rfl
  rw[<-this];exact ih _ _
 |frozen a k ih=>intro w es;exact ih _ _ _
 |getObj r k ih=>
  intro w es;unfold Sem.runT
  split
  ·exact Zg _
  ·exact ih _ _ _
  ·exact Zg _
 |setObj r o k ih=>
  intro w es;unfold Sem.runT
  split
  ·exact Zg _
  ·exact ih {w with heap:=w.heap.setIfInBounds r o} _
  ·exact Zg _
 |choose q k ih=>
  intro w es;unfold Sem.runT
  split
  ·exact ih _ _ _
  ·exact ZC (Nat.le_succ w.drawn) (ih _ {w with drawn:=w.drawn+1} _)
 |sys c k ih=>intro w es;exact ZC (sys_drawn w c) (ih _ _ _)
 |program k ih=>intro w es;exact ih _ _ _
 |mark m k ih=>intro w es;exact ih _ _
 |halt h=>intro w es;exact Zg _
theorem VK {α:Type}{p:Program}{s:Sem α}{w w':World}{a:α}(h:s.run p w=.ok a w'):w.drawn<=w'.drawn:=by
 have:=run_drawn p s w;rw[h]at this;exact this
theorem run_halt {α:Type}{p:Program}{s:Sem α}{w w':World}{a:Halt}(h:s.run p w=.halt a w'):w.drawn<=w'.drawn:=by
 have:=run_drawn p s w;rw[h]at this;exact this
theorem runT_ok {α:Type}{p:Program}{s:Sem α}{w w':World}{a:α}{es es':Array Event}(h:s.runT p w es=(.ok a w',es')):w.drawn<=w'.drawn:=by
 have:=W7 p s w es;rw[h]at this;exact this
theorem runT_halt {α:Type}{p:Program}{s:Sem α}{w w':World}{a:Halt}{es es':Array Event}(h:s.runT p w es=(.halt a w',es')):w.drawn<=w'.drawn:=by
 have:=W7 p s w es;rw[h]at this;exact this
def gW:GStep->World
 | .go _ w _| .comm _ _ _ _ w _| .spawn _ _ w _| .count _ w _| .timer _ _ w _| .alone _ _ w _| .newcoro _ _ _ w _| .coroswitch _ _ _ w _| .collect _ w _| .watch _ w _| .ended _ w _=>w
theorem Td (es:Array Event)(g:GStep):gW (g.after es)=gW g:=by cases g<;>rfl
abbrev Fw (w:World)(g:GStep):Prop:=w.drawn<=(gW g).drawn
theorem fw_ite {w:World}{c:Prop}[Decidable c]{a b:GStep}(h1:Fw w a)(h2:Fw w b):Fw w (if c then a else b):=by
 split
 ·exact h1
 ·exact h2
theorem endWith_fw (w:World)(fd:Nat)(t:ByteArray)(o:Outcome):Fw w (endWith w fd t o):=by
 unfold endWith
 have h:=sys_drawn w (.write fd t)
 generalize w.sys (.write fd t)=x at h
 obtain⟨r,w1⟩:=x
 cases r<;>first |exact h|(simp only[];split<;>exact h)
theorem doReturn_fw (p:Program)(main:Bool)(fr:Frame)(cs:List Frame)(d:Option Dying)(v:Value)(w:World):Fw w (doReturn p main fr cs d v w):=by
 unfold doReturn
 repeat' split
 all_goals exact Zg _
theorem endThrow_fw (fr:Frame)(m:String)(w:World):Fw w (endThrow fr m w):=Zg _
theorem endPrinting_fw (p:Program)(fr:Frame)(v:Value)(w:World):Fw w (endPrinting p fr v w):=by
 unfold endPrinting
 simp only[]
 split<;>exact Zg _
theorem endFatal_fw (p:Program)(fr:Frame)(cs:List Frame)(d:Option Dying)(m:String)(w:World):Fw w (endFatal p fr cs d m w):=by
 unfold endFatal
 simp only[]
 split
 ·rename_i h;exact VK h
 ·rename_i h;exact run_halt h
 ·rename_i h;exact run_halt h
theorem writeOn_fw (p:Program)(fr:Frame)(d:Dying)(f:Fatal)(w:World):Fw w (writeOn p fr d f w):=by
 unfold writeOn
 simp only[]
 split
 ·exact Zg _
 ·split
  ·rename_i h;exact runT_ok h
  ·rename_i h;exact runT_halt h
  ·rename_i h;exact runT_halt h
  ·rename_i h;exact runT_halt h
theorem die_fw (p:Program)(fr:Frame)(d:Dying)(w:World):Fw w (die p fr d w):=by
 unfold die
 split
 ·exact writeOn_fw ..
 ·split
  ·split
   ·exact Zg _
   ·exact endWith_fw ..
  ·simp only[]
   split
   ·exact Zg _
   ·split
    ·rename_i h;exact VK h
    ·rename_i h;exact run_halt h
   ·rename_i t recv name _
    have h:=W7 p (invoke (.fn (.method name) #[]) #[.iface t recv]) w #[]
    generalize (invoke (.fn (.method name) #[]) #[.iface t recv]).runT p w #[]=x at h
    obtain⟨r,es⟩:=x
    simp only[Fw,Td]
    split<;>first |exact h|exact ZC h (endPrinting_fw ..)|exact Zg _
   ·exact Zg _
theorem callDeferred_fw (p:Program)(fr:Frame)(cs:List Frame)(dy:Option Dying)(d:Deferred)(w:World):Fw w (callDeferred p fr cs dy d w):=by
 unfold callDeferred
 refine fw_ite (Zg _) ?_
 ·have h:=W7 p (invoke d.target d.args) w #[]
  generalize (invoke d.target d.args).runT p w #[]=x at h
  obtain⟨r,es⟩:=x
  simp only[Fw,Td]
  split<;>first |exact h|(split<;>exact h)|exact ZC h (endFatal_fw ..)
theorem unwind_fw (p:Program)(main:Bool)(fr:Frame)(cs:List Frame)(dy:Option Dying)(w:World):Fw w (unwind p main fr cs dy w):=by
 unfold unwind
 split
 ·have h:=W7 p (Instr.takeDeferred ‹Nat›) w #[]
  generalize (Instr.takeDeferred ‹Nat›).runT p w #[]=x at h
  obtain⟨r,es⟩:=x
  simp only[Fw,Td]
  split<;>exact h
 ·exact callDeferred_fw ..
 ·split
  ·exact Zg _
  ·split
   ·exact Zg _
   ·split
    ·exact Zg _
    ·split
     ·split
      ·exact Zg _
      ·split
       ·rename_i h;exact VK h
       ·rename_i h;exact run_halt h
       ·rename_i h;exact run_halt h
     ·split
      ·exact endPrinting_fw ..
      ·exact Zg _
  ·split
   ·exact doReturn_fw ..
   ·rename_i fn _
    have h:=W7 p (results fn fr.tmps) w #[]
    generalize (results fn fr.tmps).runT p w #[]=x at h
    obtain⟨r,es⟩:=x
    simp only[Fw,Td]
    split
    ·exact ZC h (doReturn_fw ..)
    ·exact h
    ·exact h
theorem early_fw (p:Program)(fr:Frame)(cs:List Frame)(dy:Option Dying)(g:Nat)(w:World):Fw w (early p fr cs dy g w):=by
 have hn:∀w:World,Fw w (match w.heap[g]? with
  |some (.pending c elem)=>.go {frame:=fr,callers:=cs,status:=.running,dying:=dy} {w with heap:=w.heap.setIfInBounds g (.cells c elem)}
  | _ => .ended (.stuck "early: the variable does not wait" (fr.pos p)) w) := by
  intro w;split<;>exact Zg _
 unfold early
 simp only[]
 split
 ·exact hn w
 ·split
  ·exact Zg _
  ·split
   ·exact hn w
   ·split
    ·exact hn w
    ·split
     ·exact Zg _
     ·exact Zg _
     ·exact Zg _
     ·exact hn w
     ·split
      ·exact Zg _
      ·split
       ·exact hn w
       ·split
        ·rename_i h;exact ZC (VK h) (hn _)
        ·rename_i h;exact VK h
        ·rename_i h;exact run_halt h
theorem SN (p:Program)(listen:Bool)(fr:Frame)(cs:List Frame)(dy:Option Dying)(s:Sem Next)(w:World):Fw w (stepG.apply p listen fr cs dy s w):=by
 unfold stepG.apply
 have h:w.drawn<=(resW (if listen=true then s.runT p w #[]else(s.run p w,#[])).1).drawn:=by
  split
  ·exact W7 ..
  ·exact run_drawn ..
 generalize (if listen=true then s.runT p w #[]else(s.run p w,#[]))=x at h
 obtain⟨r,es⟩:=x
 simp only[Fw,Td]
 simp only[resW]at h
 split<;>first
  |exact h
  |exact ZC h (endFatal_fw ..)
  |exact ZC h (early_fw ..)
  |exact ZC h (endThrow_fw ..)
  |exact ZC h (fw_ite (endThrow_fw ..) (Zg _))
  |(split<;>first |exact h|exact ZC h (endThrow_fw ..))
theorem oper_fw (p:Program)(listen:Bool)(fr:Frame)(cs:List Frame)(dy:Option Dying)(w:World):Fw w (stepG.oper p listen fr cs dy w):=by
 unfold stepG.oper
 split
 ·exact Zg _
 ·split
  ·exact SN ..
  ·exact SN ..
theorem exec_fw (p:Program)(main listen:Bool)(fr:Frame)(cs:List Frame)(dy:Option Dying)(w:World):Fw w (stepG.exec p main listen fr cs dy w):=by
 have leave:∀jump:Option Code,Fw w (match fr.roundOf with
   | none => if jump matches none | some .ret then .go { frame := { fr with mode := .returning }, callers := cs, status := .running, dying := dy } w else .ended (.stuck "exit, goto: no such block or label" (fr.pos p)) w
   |some l=>GStep.after (seen p fr.fn ((Instr.endRound l jump).runT p w #[]).2) (match((Instr.endRound l jump).runT p w #[]).1 with
     | .ok v w=>doReturn p main fr cs dy v w
     | .halt _ w => .ended (.stuck "range over a function: no such loop" (fr.pos p)) w)) := by
  intro jump
  split
  ·split<;>exact Zg _
  ·rename_i l _
   have h:=W7 p (Instr.endRound l jump) w #[]
   simp only[Fw,Td]
   split
   ·rename_i e;rw[e]at h;exact ZC h (doReturn_fw ..)
   ·rename_i e;rw[e]at h;exact h
 unfold stepG.exec
 simp only[]
 split
 ·exact leave none
 ·exact leave (some .ret)
 ·exact Zg _
 ·exact Zg _
 ·exact Zg _
 ·exact Zg _
 ·exact Zg _
 ·split<;>exact Zg _
 ·exact Zg _
 ·exact Zg _
 ·exact Zg _
 ·exact Zg _
 ·rename_i i k _
  cases exitTo i k with
  |none=>exact leave (some (.exit i))
  |some t=>exact Zg _
 ·rename_i i k _
  cases gotoIn i k with
  |none=>exact leave (some (.goto i))
  |some t=>exact Zg _
 ·rename_i f params assign body k _
  have h:=W7 p (Instr.enterLoop fr.fn fr.tmps params assign body fr.roundOf) w #[]
  simp only[Fw,Td]
  split
  ·rename_i e;rw[e]at h;exact ZC h (SN ..)
  ·rename_i e;rw[e]at h;exact h
 ·exact Zg _
 ·exact SN ..
 ·rename_i l k _
  have h:=W7 p (Instr.endLoop l) w #[]
  simp only[Fw,Td]
  split
  ·rename_i e;rw[e]at h;exact h
  ·rename_i e;rw[e]at h;exact h
  ·rename_i e;rw[e]at h;exact h
 ·exact Zg _
 ·exact SN ..
 ·rename_i row args _ _
  cases Extern.next row with
  |none=>exact Zg _
  |some e=>exact SN ..
 ·split
  ·exact Zg _
  ·split
   ·rename_i h;exact VK h
   ·rename_i h;exact run_halt h
 ·exact Zg _
 ·split
  ·exact oper_fw ..
  ·exact Zg _
theorem stepG_fw (p:Program)(main:Bool)(g:Goroutine)(w:World)(listen:Bool):Fw w (stepG p main g w listen):=by
 unfold stepG
 simp only[]
 split
 ·exact die_fw ..
 ·exact exec_fw ..
 ·exact unwind_fw ..
def sOk (d:Nat):Stepped->Prop
 | .next m=>d<=m.world.drawn
 |_=>True
theorem look_ok (p:Program)(gs:Array Goroutine)(rest:Rest)(w:World):sOk w.drawn (look p gs rest w):=by
 unfold look
 split
 ·simp only[]
  split
  ·trivial
  ·split
   ·trivial
   ·split
    ·rename_i e;have h:=VK e;exact h
    ·trivial
    ·trivial
 ·trivial
theorem communicate_ok (p:Program)(rest:Rest)(gs:Array Goroutine)(i:Nat)(g:Goroutine)(cs:Array CommCase)(b:Bool)(sh:CommShape)(w:World):sOk w.drawn (communicate p rest gs i g cs b sh w).1:=by
 unfold communicate
 simp only[]
 split
 ·trivial
 ·split
  ·split
   ·split
    ·rename_i h
     unfold waitingAt at h
     split at h
     ·split at h
      ·cases h;exact Zg _
      ·cases h
     ·cases h;exact Zg _
    ·trivial
   ·exact Zg _
  ·split
   ·trivial
   ·rename_i e
    have hr:=VK e
    clear e
    split
    ·split
     ·rename_i e;have h:=run_halt e;exact ZC hr h
     ·trivial
    ·exact hr
    ·exact hr
    ·split
     ·exact hr
     ·split
      ·rename_i e;have h:=VK e;exact ZC hr h
      ·trivial
    ·exact hr
    ·exact hr
    ·trivial
theorem drain_drawn (w:World)(c:Nat):(drain w c).2.drawn=w.drawn:=by
 unfold drain;split<;>rfl
theorem retime_drawn (m:Machine)(k:Nat)(t:Timer)(a b:Nat):(retime m k t a b).2.world.drawn=m.world.drawn:=by
 unfold retime
 simp only[]
 split
 ·exact drain_drawn ..
 ·rfl
theorem timerOp_drawn {m m':Machine}{op:TimerOp}{v:Value}(h:timerOp m op=.ok (v,m')):m'.world.drawn=m.world.drawn:=by
 have hn:∀(d:Nat) (var:Addr) (f:Nat->Timer->Value×Machine),(∀k t,(f k t).2.world.drawn=d)->timerOp.named m var f=.ok (v,m')->m'.world.drawn=d:=by
  intro d var f hf h
  unfold timerOp.named at h
  split at h
  ·rename_i k _
   have:=hf k (m.rest.timers.getD k default)
   simp only[Except.ok.injEq]at h
   rw[h]at this;exact this
  ·cases h
 unfold timerOp at h
 split at h
 ·split at h
  ·cases h;rfl
  ·split at h
   ·split at h
    ·cases h
    ·cases h;rfl
   ·cases h
 ·exact hn _ _ _ (fun k t=>retime_drawn ..) h
 ·split at h
  ·rename_i m1 ho
   have e:m1.world.drawn=m.world.drawn:=by
    unfold timerOp.opened at ho
    split at ho
    ·split at ho
     ·cases ho;rfl
     ·cases ho
    ·cases ho;rfl
   rw[<-e]
   exact hn _ _ _ (fun k t=>retime_drawn ..) h
  ·cases h
 ·cases h;rfl
theorem runT_step (p:Program)(m:Machine)(i:Nat)(l:Bool):sOk m.world.drawn (runT p m i l).1:=by
 unfold runT
 simp only[]
 generalize m.gs.swapAt! i {(default:Goroutine)with status:=.finished}=x
 obtain⟨g,gs⟩:=x
 simp only[]
 have h:=stepG_fw p (i==0) g m.world l
 generalize stepG p (i==0) g m.world l=s at h
 cases s with
 |ended=>trivial
 |comm g cs b sh w es=>
  have h2:=communicate_ok p m.rest gs i g cs b sh w
  simp only[Fw,gW]at h
  simp only[]
  generalize communicate p m.rest gs i g cs b sh w=y at h2
  obtain⟨r,ops⟩:=y
  cases r with
  |next m'=>exact ZC h h2
  |_=>trivial
 |go=>exact h
 |spawn=>exact h
 |count=>
  simp only[]
  split
  ·trivial
  ·exact h
 |alone=>exact h
 |collect g w es=>
  have h2:=look_ok p (gs.setIfInBounds i g) m.rest w
  simp only[Fw,gW]at h
  simp only[]
  generalize look p (gs.setIfInBounds i g) m.rest w=y at h2
  cases y with
  |next m'=>exact ZC h h2
  |_=>trivial
 |watch=>exact h
 |newcoro=>exact h
 |coroswitch=>
  simp only[]
  split
  ·exact h
  ·split
   ·rename_i e;cases e;exact h
   ·trivial
  ·trivial
 |timer=>
  simp only[]
  split
  ·rename_i e;simp only[sOk];rw[timerOp_drawn e];exact h
  ·split
   ·rename_i e;cases e;exact h
   ·trivial
  ·trivial
  ·trivial
theorem serve_ok (p:Program)(m:Machine)(k:Nat):sOk m.world.drawn (serve p m k):=by
 unfold serve
 split
 ·trivial
 ·exact Zg _
 ·simp only[]
  split
  ·trivial
  ·exact Zg _
def mOk (d:Nat):Move->Prop
 | .goroutine m _=>d<=m.world.drawn
 | .machine s _=>sOk d s
theorem mOk_le {d d':Nat}(h:d<=d'):∀{v:Move},mOk d' v->mOk d v
 | .goroutine _ _,k=>ZC h k
 | .machine s _,k=>by
   cases s with
   |next m=>exact ZC h k
   |_=>trivial
theorem endWith_none {w:World}{fd:Nat}{t:ByteArray}{o:Outcome}{d:Nat}:mOk d (match endWith w fd t o with
  | .ended o w _=>.machine (.ended o w)
  | _ => .machine (.ended (.stuck "" "") default)) := by
 split<;>trivial
theorem pick_ok (p:Program)(rs:List Nat)(m:Machine):mOk m.world.drawn (match(choose (.sched rs.length)).run p m.world with
   | .halt _ w => .machine (.ended (.stuck "sched" "") w)
   | .ok k world=>
     if rs.length<=1 then .goroutine {m with world} (rs.getD k 0)else
     match (choose (.extern "sched.slice" 65536)).run p world with
     | .halt _ w => .machine (.ended (.stuck "sched.slice" "") w)
     | .ok n world=>.goroutine {m with world,rest:={m.rest with slice:=if n=0 then none else some (rs.getD k 0,n)}} (rs.getD k 0)):=by
 split
 ·trivial
 ·rename_i e;have h:=VK e
  split
  ·exact h
  ·split
   ·trivial
   ·rename_i e2;have h2:=VK e2;exact ZC h h2
theorem askOn_ok (p:Program)(m:Machine):mOk m.world.drawn (askOn p m):=by
 unfold askOn
 simp only[]
 split
 ·trivial
 ·rename_i e;have h:=VK e;clear e
  split
  ·refine mOk_le h ?_
   exact serve_ok ..
  ·split
   ·split
    ·exact h
    ·split
     ·exact h
     ·exact endWith_none
   ·split
    ·exact mOk_le h (pick_ok p _ {m with world:=_})
    ·split
     ·trivial
     ·rename_i e2;have h2:=VK e2;exact mOk_le (ZC h h2) (pick_ok p _ {m with world:=_})
     ·rename_i e2;have h2:=VK e2;exact ZC h h2
     ·rename_i e2;have h2:=VK e2;exact mOk_le (ZC h h2) (pick_ok p _ (Machine.advanceTo {m with world:=_} _))
theorem ask_ok (p:Program)(m:Machine):mOk m.world.drawn (ask p m):=by
 unfold ask
 split
 ·split
  ·trivial
  ·rename_i e;have h:=VK e;clear e
   split
   ·rename_i m1 e
    have h2:=look_ok p m.gs m.rest ‹World›
    rw[e]at h2
    exact mOk_le (ZC h h2) (askOn_ok p m1)
   ·rename_i e _
    have h2:=look_ok p m.gs m.rest ‹World›
    exact mOk_le h h2
  ·rename_i e;have h:=VK e
   exact mOk_le h (askOn_ok p {m with world:=_})
 ·exact askOn_ok p m
theorem move_ok (p:Program)(m:Machine):mOk m.world.drawn (move p m):=by
 unfold move
 split
 ·split
  ·exact Zg _
  ·trivial
 ·split
  ·split
   ·exact Zg _
   ·exact ask_ok p {m with rest:=_}
  ·exact ask_ok p m
theorem step_ok (p:Program)(m:Machine):sOk m.world.drawn (step p m):=by
 unfold step stepT
 have h:=move_ok p m
 generalize move p m=v at h
 cases v with
 |goroutine m1 i=>
  have h2:=runT_step p m1 i true
  simp only[]
  generalize (runT p m1 i true).1=s at h2⊢
  cases s with
  |next m2=>exact ZC h h2
  |_=>trivial
 |machine s ops=>exact h
theorem runN_drawn {p:Program}:∀(n:Nat) {m m':Machine},runN p n m=.next m'->m.world.drawn<=m'.world.drawn
 |0,m,m',h=>by cases h;exact Zg _
 |n+1,m,m',h=>by
  have h2:=step_ok p m
  unfold runN at h
  split at h
  ·rename_i m1 e
   rw[e]at h2
   exact ZC h2 (runN_drawn n h)
  ·rename_i e
   exact absurd h (e _)
theorem calls_drawn {P:Program}{f:FuncId}{args:Array Value}{w:World}{R:Ending->World->Prop}(h:Calls P f args w R)(hr:∀e w',R e w'->∃v,e=.returned v):
  Calls P f args w fun e w'=>R e w'/\w.drawn<=w'.drawn:=by
 intro cs
 obtain⟨e,w',fr,h1,h2,h3⟩:=h cs
 refine⟨e,w',fr,⟨h1,?_⟩,h2,h3⟩
 obtain⟨v,rfl⟩:=hr e w' h1
 obtain⟨n,hn⟩:=h2
 exact runN_drawn n hn
end Go.Ev
