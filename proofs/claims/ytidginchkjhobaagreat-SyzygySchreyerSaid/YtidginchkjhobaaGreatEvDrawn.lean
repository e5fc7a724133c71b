/- The count of drawn answers never falls, whatever a machine does. -/
import Derived.Test.YtidginchkjhobaaGreatZ
import Derived.Calls
namespace Go.Ev
open Go
theorem Av {e:Type}:∀(a:Ask e) (w:World),w.drawn<=(w.ask a).2.drawn:=by
 intro a;induction a with
 |done a=>intro w;exact Ze _
 |ask d b k c=>
  intro w;unfold World.ask;simp only[];split
  ·exact c _ _
  ·exact Zx (Nat.le_succ w.drawn) (c _ {w with drawn:=w.drawn+1})
theorem cY (w:World)(c:Sys):w.drawn<=(w.sys c).2.drawn:=by
 unfold World.sys;have h:=Av (Kernel.perform c w.os) w;generalize w.ask (Kernel.perform c w.os)=x at h;obtain⟨⟨r,a⟩,w1⟩:=x;cases r<;>first |exact Ze _|exact h
theorem fw {p:Program}{w c:World}{b:Addr}{u:TypeId}{k:Addr}{v:Value}{a:Bool}{l:List Addr}(h:w.viewStore p b u k v a=.ok (c,l)):c.drawn=w.drawn:=by
 unfold World.viewStore at h;simp only[bind,Except.bind,pure,Except.pure]at h
 repeat' split at h
 all_goals first |cases h;rfl|cases h
theorem OX {p:Program}{w c:World}{a:Addr}{v:Value}{b:Bool}{l:List Addr}(h:w.farStore p a v b=.ok (c,l)):c.drawn=w.drawn:=by
 unfold World.farStore at h;split at h
 ·split at h
  ·rename_i e;cases h;exact fw e
  ·cases h
 ·cases h
def EH {α:Type}:Result α->World
 | .ok _ w=>w
 | .halt _ w=>w
theorem dj {d:Type}(p:Program):∀(s:Sem d) (w:World),w.drawn<=(EH (s.run p w)).drawn:=by
 intro s;induction s with
 |pure a=>intro w;exact Ze _
 |load m a k b=>
  intro w;unfold Sem.run;split
  ·exact b _ _
  ·split
   ·exact b _ _
   ·exact Ze _
 |store m a v k b=>
  intro w;cases v<;>simp only[Sem.run];all_goals first
   |exact Ze _
   |(split
     ·split
      ·exact Ze _
      ·exact b (w.setCell a _)
     ·split
      ·rename_i h;have:=OX h;rw[<-this];exact b _
      ·exact Ze _)
 |new o k b=>intro w;exact b _ {w with heap:=w.heap.push o}
 |shape r k b=>intro w;exact b _ _
 |freeze a n k b=>
  intro w;have :(w.freeze a n).drawn=w.drawn:=by unfold World.freeze;split<;>rfl
  rw[<-this];exact b _
 |frozen a k b=>intro w;exact b _ _
 |getObj r k b=>
  intro w;unfold Sem.run;split
  ·exact Ze _
  ·exact b _ _
  ·exact Ze _
 |setObj r o k b=>
  intro w;unfold Sem.run;split
  ·exact Ze _
  ·exact b {w with heap:=w.heap.setIfInBounds r o}
  ·exact Ze _
 |choose q k b=>
  intro w;unfold Sem.run;split
  ·exact b _ _
  ·exact Zx (Nat.le_succ w.drawn) (b _ {w with drawn:=w.drawn+1})
 |sys c k b=>intro w;exact Zx (cY w c) (b _ _)
 |program k b=>intro w;exact b _ _
 |mark m k b=>intro w;exact b _
 |halt h=>intro w;exact Ze _
theorem Ug {e:Type}(p:Program):∀(s:Sem e) (w:World) (d:Array Event),w.drawn<=(EH (s.runT p w d).1).drawn:=by
 intro s;induction s with
 |pure a=>intro w d;exact Ze _
 |load m a k b=>
  intro w d;unfold Sem.runT;split
  ·exact b _ _ _
  ·split
   ·exact b _ _ _
   ·exact Ze _
 |store m a v k b=>
  intro w d;cases v<;>simp only[Sem.runT];all_goals first
   |exact Ze _
   |(split
     ·split
      ·exact Ze _
      ·exact b (w.setCell a _) _
     ·split
      ·rename_i h;have:=OX h;rw[<-this];exact b _ _
      ·exact Ze _)
 |new o k b=>intro w d;exact b _ {w with heap:=w.heap.push o} _
 |shape r k b=>intro w d;exact b _ _ _
 |freeze a n k b=>
  intro w d;have :(w.freeze a n).drawn=w.drawn:=by unfold World.freeze;split<;>rfl
  rw[<-this];exact b _ _
 |frozen a k b=>intro w d;exact b _ _ _
 |getObj r k b=>
  intro w d;unfold Sem.runT;split
  ·exact Ze _
  ·exact b _ _ _
  ·exact Ze _
 |setObj r o k b=>
  intro w d;unfold Sem.runT;split
  ·exact Ze _
  ·exact b {w with heap:=w.heap.setIfInBounds r o} _
  ·exact Ze _
 |choose q k b=>
  intro w d;unfold Sem.runT;split
  ·exact b _ _ _
  ·exact Zx (Nat.le_succ w.drawn) (b _ {w with drawn:=w.drawn+1} _)
 |sys c k b=>intro w d;exact Zx (cY w c) (b _ _ _)
 |program k b=>intro w d;exact b _ _ _
 |mark m k b=>intro w d;exact b _ _
 |halt h=>intro w d;exact Ze _
theorem U7 {c:Type}{p:Program}{s:Sem c}{w b:World}{a:c}(h:s.run p w=.ok a b):w.drawn<=b.drawn:=by
 have:=dj p s w;rw[h]at this;exact this
theorem run_halt {c:Type}{p:Program}{s:Sem c}{w b:World}{a:Halt}(h:s.run p w=.halt a b):w.drawn<=b.drawn:=by
 have:=dj p s w;rw[h]at this;exact this
theorem Ey {e:Type}{p:Program}{s:Sem e}{w d:World}{a:e}{c b:Array Event}(h:s.runT p w c=(.ok a d,b)):w.drawn<=d.drawn:=by
 have:=Ug p s w c;rw[h]at this;exact this
theorem dr {e:Type}{p:Program}{s:Sem e}{w d:World}{a:Halt}{c b:Array Event}(h:s.runT p w c=(.halt a d,b)):w.drawn<=d.drawn:=by
 have:=Ug p s w c;rw[h]at this;exact this
def gW:GStep->World
 | .go _ w _| .comm _ _ _ _ w _| .spawn _ _ w _| .count _ w _| .timer _ _ w _| .alone _ _ w _| .newcoro _ _ _ w _| .coroswitch _ _ _ w _| .collect _ w _| .watch _ w _| .ended _ w _=>w
theorem Rt (a:Array Event)(g:GStep):gW (g.after a)=gW g:=by cases g<;>rfl
abbrev Fw (w:World)(g:GStep):Prop:=w.drawn<=(gW g).drawn
theorem CN {w:World}{c:Prop}[Decidable c]{a b:GStep}(d:Fw w a)(e:Fw w b):Fw w (if c then a else b):=by
 split
 ·exact d
 ·exact e
theorem vC (w:World)(a:Nat)(t:ByteArray)(o:Outcome):Fw w (endWith w a t o):=by
 unfold endWith;have h:=cY w (.write a t);generalize w.sys (.write a t)=x at h;obtain⟨r,w1⟩:=x;cases r<;>first |exact h|(simp only[];split<;>exact h)
theorem O2 (p:Program)(a:Bool)(c:Frame)(b:List Frame)(d:Option Dying)(v:Value)(w:World):Fw w (doReturn p a c b d v w):=by
 unfold doReturn
 repeat' split
 all_goals exact Ze _
theorem OZ (a:Frame)(m:String)(w:World):Fw w (endThrow a m w):=Ze _
theorem O0 (p:Program)(a:Frame)(v:Value)(w:World):Fw w (endPrinting p a v w):=by
 unfold endPrinting;simp only[];split<;>exact Ze _
theorem eZ (p:Program)(b:Frame)(a:List Frame)(d:Option Dying)(m:String)(w:World):Fw w (endFatal p b a d m w):=by
 unfold endFatal;simp only[];split
 ·rename_i h;exact U7 h
 ·rename_i h;exact run_halt h
 ·rename_i h;exact run_halt h
theorem tW (p:Program)(a:Frame)(d:Dying)(f:Fatal)(w:World):Fw w (writeOn p a d f w):=by
 unfold writeOn;simp only[];split
 ·exact Ze _
 ·split
  ·rename_i h;exact Ey h
  ·rename_i h;exact dr h
  ·rename_i h;exact dr h
  ·rename_i h;exact dr h
theorem If (p:Program)(c:Frame)(d:Dying)(w:World):Fw w (die p c d w):=by
 unfold die;split
 ·exact tW ..
 ·split
  ·split
   ·exact Ze _
   ·exact vC ..
  ·simp only[];split
   ·exact Ze _
   ·split
    ·rename_i h;exact U7 h
    ·rename_i h;exact run_halt h
   ·rename_i t b a _;have h:=Ug p (invoke (.fn (.method a) #[]) #[.iface t b]) w #[];generalize (invoke (.fn (.method a) #[]) #[.iface t b]).runT p w #[]=x at h;obtain⟨r,e⟩:=x;simp only[Fw,Rt];split<;>first |exact h|exact Zx h (O0 ..)|exact Ze _
   ·exact Ze _
theorem fJ (p:Program)(c:Frame)(a:List Frame)(b:Option Dying)(d:Deferred)(w:World):Fw w (callDeferred p c a b d w):=by
 unfold callDeferred;refine CN (Ze _) ?_
 ·have h:=Ug p (invoke d.target d.args) w #[];generalize (invoke d.target d.args).runT p w #[]=x at h;obtain⟨r,e⟩:=x;simp only[Fw,Rt];split<;>first |exact h|(split<;>exact h)|exact Zx h (eZ ..)
theorem yf (p:Program)(a:Bool)(b:Frame)(d:List Frame)(e:Option Dying)(w:World):Fw w (unwind p a b d e w):=by
 unfold unwind;split
 ·have h:=Ug p (Instr.takeDeferred ‹Nat›) w #[];generalize (Instr.takeDeferred ‹Nat›).runT p w #[]=x at h;obtain⟨r,f⟩:=x;simp only[Fw,Rt];split<;>exact h
 ·exact fJ ..
 ·split
  ·exact Ze _
  ·split
   ·exact Ze _
   ·split
    ·exact Ze _
    ·split
     ·split
      ·exact Ze _
      ·split
       ·rename_i h;exact U7 h
       ·rename_i h;exact run_halt h
       ·rename_i h;exact run_halt h
     ·split
      ·exact O0 ..
      ·exact Ze _
  ·split
   ·exact O2 ..
   ·rename_i c _;have h:=Ug p (results c b.tmps) w #[];generalize (results c b.tmps).runT p w #[]=x at h;obtain⟨r,f⟩:=x;simp only[Fw,Rt];split
    ·exact Zx h (O2 ..)
    ·exact h
    ·exact h
theorem C7 (p:Program)(fr:Frame)(cs:List Frame)(dy:Option Dying)(g:Nat)(w:World):Fw w (early p fr cs dy g w):=by
 have hn:∀w:World,Fw w (match w.heap[g]? with
  |some (.pending c elem)=>.go {frame:=fr,callers:=cs,status:=.running,dying:=dy} {w with heap:=w.heap.setIfInBounds g (.cells c elem)}
  | _ => .ended (.stuck "early: the variable does not wait" (fr.pos p)) w) := by
  intro w;split<;>exact Ze _
 unfold early;simp only[];split
 ·exact hn w
 ·split
  ·exact Ze _
  ·split
   ·exact hn w
   ·split
    ·exact hn w
    ·split
     ·exact Ze _
     ·exact Ze _
     ·exact Ze _
     ·exact hn w
     ·split
      ·exact Ze _
      ·split
       ·exact hn w
       ·split
        ·rename_i h;exact Zx (U7 h) (hn _)
        ·rename_i h;exact U7 h
        ·rename_i h;exact run_halt h
theorem Pz (p:Program)(a:Bool)(d:Frame)(b:List Frame)(c:Option Dying)(s:Sem Next)(w:World):Fw w (stepG.apply p a d b c s w):=by
 unfold stepG.apply;have h:w.drawn<=(EH (if a=true then s.runT p w #[]else(s.run p w,#[])).1).drawn:=by
  split
  ·exact Ug ..
  ·exact dj ..
 generalize (if a=true then s.runT p w #[]else(s.run p w,#[]))=x at h;obtain⟨r,e⟩:=x;simp only[Fw,Rt];simp only[EH]at h;split<;>first
  |exact h
  |exact Zx h (eZ ..)
  |exact Zx h (C7 ..)
  |exact Zx h (OZ ..)
  |exact Zx h (CN (OZ ..) (Ze _))
  |(split<;>first |exact h|exact Zx h (OZ ..))
theorem E1 (p:Program)(a:Bool)(d:Frame)(b:List Frame)(c:Option Dying)(w:World):Fw w (stepG.oper p a d b c w):=by
 unfold stepG.oper;split
 ·exact Ze _
 ·split
  ·exact Pz ..
  ·exact Pz ..
theorem FA (p:Program)(main listen:Bool)(fr:Frame)(cs:List Frame)(dy:Option Dying)(w:World):Fw w (stepG.exec p main listen fr cs dy w):=by
 have leave:∀jump:Option Code,Fw w (match fr.roundOf with
   | none => if jump matches none | some .ret then .go { frame := { fr with mode := .returning }, callers := cs, status := .running, dying := dy } w else .ended (.stuck "exit, goto: no such block or label" (fr.pos p)) w
   |some l=>GStep.after (seen p fr.fn ((Instr.endRound l jump).runT p w #[]).2) (match((Instr.endRound l jump).runT p w #[]).1 with
     | .ok v w=>doReturn p main fr cs dy v w
     | .halt _ w => .ended (.stuck "range over a function: no such loop" (fr.pos p)) w)) := by
  intro jump;split
  ·split<;>exact Ze _
  ·rename_i l _;have h:=Ug p (Instr.endRound l jump) w #[];simp only[Fw,Rt];split
   ·rename_i e;rw[e]at h;exact Zx h (O2 ..)
   ·rename_i e;rw[e]at h;exact h
 unfold stepG.exec;simp only[];split
 ·exact leave none
 ·exact leave (some .ret)
 ·exact Ze _
 ·exact Ze _
 ·exact Ze _
 ·exact Ze _
 ·exact Ze _
 ·split<;>exact Ze _
 ·exact Ze _
 ·exact Ze _
 ·exact Ze _
 ·exact Ze _
 ·rename_i i k _;cases exitTo i k with
  |none=>exact leave (some (.exit i))
  |some t=>exact Ze _
 ·rename_i i k _;cases gotoIn i k with
  |none=>exact leave (some (.goto i))
  |some t=>exact Ze _
 ·rename_i f params assign body k _;have h:=Ug p (Instr.enterLoop fr.fn fr.tmps params assign body fr.roundOf) w #[];simp only[Fw,Rt];split
  ·rename_i e;rw[e]at h;exact Zx h (Pz ..)
  ·rename_i e;rw[e]at h;exact h
 ·exact Ze _
 ·exact Pz ..
 ·rename_i l k _;have h:=Ug p (Instr.endLoop l) w #[];simp only[Fw,Rt];split
  ·rename_i e;rw[e]at h;exact h
  ·rename_i e;rw[e]at h;exact h
  ·rename_i e;rw[e]at h;exact h
 ·exact Ze _
 ·exact Pz ..
 ·rename_i row args _ _;cases Extern.next row with
  |none=>exact Ze _
  |some e=>exact Pz ..
 ·split
  ·exact Ze _
  ·split
   ·rename_i h;exact U7 h
   ·rename_i h;exact run_halt h
 ·exact Ze _
 ·split
  ·exact E1 ..
  ·exact Ze _
theorem AX (p:Program)(b:Bool)(g:Goroutine)(w:World)(a:Bool):Fw w (stepG p b g w a):=by
 unfold stepG;simp only[];split
 ·exact If ..
 ·exact FA ..
 ·exact yf ..
def G6 (d:Nat):Stepped->Prop
 | .next m=>d<=m.world.drawn
 |_=>True
theorem look_ok (p:Program)(a:Array Goroutine)(rest:Rest)(w:World):G6 w.drawn (look p a rest w):=by
 unfold look;split
 ·simp only[];split
  ·trivial
  ·split
   ·trivial
   ·split
    ·rename_i e;have h:=U7 e;exact h
    ·trivial
    ·trivial
 ·trivial
theorem jR (p:Program)(rest:Rest)(d:Array Goroutine)(i:Nat)(g:Goroutine)(c:Array CommCase)(b:Bool)(f:CommShape)(w:World):G6 w.drawn (communicate p rest d i g c b f w).1:=by
 unfold communicate;simp only[];split
 ·trivial
 ·split
  ·split
   ·split
    ·rename_i h;unfold waitingAt at h;split at h
     ·split at h
      ·cases h;exact Ze _
      ·cases h
     ·cases h;exact Ze _
    ·trivial
   ·exact Ze _
  ·split
   ·trivial
   ·rename_i e;have a:=U7 e;clear e;split
    ·split
     ·rename_i e;have h:=run_halt e;exact Zx a h
     ·trivial
    ·exact a
    ·exact a
    ·split
     ·exact a
     ·split
      ·rename_i e;have h:=U7 e;exact Zx a h
      ·trivial
    ·exact a
    ·exact a
    ·trivial
theorem sL (w:World)(c:Nat):(drain w c).2.drawn=w.drawn:=by
 unfold drain;split<;>rfl
theorem bp (m:Machine)(k:Nat)(t:Timer)(a b:Nat):(retime m k t a b).2.world.drawn=m.world.drawn:=by
 unfold retime;simp only[];split
 ·exact sL ..
 ·rfl
theorem kA {m c:Machine}{l:TimerOp}{v:Value}(h:timerOp m l=.ok (v,c)):c.world.drawn=m.world.drawn:=by
 have g:∀(d:Nat) (b:Addr) (f:Nat->Timer->Value×Machine),(∀k t,(f k t).2.world.drawn=d)->timerOp.named m b f=.ok (v,c)->c.world.drawn=d:=by
  intro d b f i h;unfold timerOp.named at h;split at h
  ·rename_i k _;have:=i k (m.rest.timers.getD k default);simp only[Except.ok.injEq]at h;rw[h]at this;exact this
  ·cases h
 unfold timerOp at h;split at h
 ·split at h
  ·cases h;rfl
  ·split at h
   ·split at h
    ·cases h
    ·cases h;rfl
   ·cases h
 ·exact g _ _ _ (fun k t=>bp ..) h
 ·split at h
  ·rename_i j a;have e:j.world.drawn=m.world.drawn:=by
    unfold timerOp.opened at a;split at a
    ·split at a
     ·cases a;rfl
     ·cases a
    ·cases a;rfl
   rw[<-e];exact g _ _ _ (fun k t=>bp ..) h
  ·cases h
 ·cases h;rfl
theorem yz (p:Program)(m:Machine)(i:Nat)(l:Bool):G6 m.world.drawn (runT p m i l).1:=by
 unfold runT;simp only[];generalize m.gs.swapAt! i {(default:Goroutine)with status:=.finished}=x;obtain⟨g,c⟩:=x;simp only[];have h:=AX p (i==0) g m.world l;generalize stepG p (i==0) g m.world l=s at h;cases s with
 |ended=>trivial
 |comm g d b f w j=>
  have a:=jR p m.rest c i g d b f w;simp only[Fw,gW]at h;simp only[];generalize communicate p m.rest c i g d b f w=y at a;obtain⟨r,n⟩:=y;cases r with
  |next k=>exact Zx h a
  |_=>trivial
 |go=>exact h
 |spawn=>exact h
 |count=>
  simp only[];split
  ·trivial
  ·exact h
 |alone=>exact h
 |collect g w j=>
  have a:=look_ok p (c.setIfInBounds i g) m.rest w;simp only[Fw,gW]at h;simp only[];generalize look p (c.setIfInBounds i g) m.rest w=y at a;cases y with
  |next k=>exact Zx h a
  |_=>trivial
 |watch=>exact h
 |newcoro=>exact h
 |coroswitch=>
  simp only[];split
  ·exact h
  ·split
   ·rename_i e;cases e;exact h
   ·trivial
  ·trivial
 |timer=>
  simp only[];split
  ·rename_i e;simp only[G6];rw[kA e];exact h
  ·split
   ·rename_i e;cases e;exact h
   ·trivial
  ·trivial
  ·trivial
theorem Be (p:Program)(m:Machine)(k:Nat):G6 m.world.drawn (serve p m k):=by
 unfold serve;split
 ·trivial
 ·exact Ze _
 ·simp only[];split
  ·trivial
  ·exact Ze _
def HC (d:Nat):Move->Prop
 | .goroutine m _=>d<=m.world.drawn
 | .machine s _=>G6 d s
theorem ax {d a:Nat}(h:d<=a):∀{v:Move},HC a v->HC d v
 | .goroutine _ _,k=>Zx h k
 | .machine s _,k=>by
   cases s with
   |next m=>exact Zx h k
   |_=>trivial
theorem oM {w:World}{fd:Nat}{t:ByteArray}{o:Outcome}{d:Nat}:HC d (match endWith w fd t o with
  | .ended o w _=>.machine (.ended o w)
  | _ => .machine (.ended (.stuck "" "") default)) := by
 split<;>trivial
theorem oh (p:Program)(rs:P')(m:Machine):HC m.world.drawn (match(choose (.sched rs.length)).run p m.world with
   | .halt _ w => .machine (.ended (.stuck "sched" "") w)
   | .ok k world=>
     if rs.length<=1 then .goroutine {m with world} (rs.getD k 0)else
     match (choose (.extern "sched.slice" 65536)).run p world with
     | .halt _ w => .machine (.ended (.stuck "sched.slice" "") w)
     | .ok n world=>.goroutine {m with world,rest:={m.rest with slice:=if n=0 then none else some (rs.getD k 0,n)}} (rs.getD k 0)):=by
 split
 ·trivial
 ·rename_i e;have h:=U7 e;split
  ·exact h
  ·split
   ·trivial
   ·rename_i e2;have h2:=U7 e2;exact Zx h h2
theorem jX (p:Program)(m:Machine):HC m.world.drawn (askOn p m):=by
 unfold askOn;simp only[];split
 ·trivial
 ·rename_i e;have h:=U7 e;clear e;split
  ·refine ax h ?_;exact Be ..
  ·split
   ·split
    ·exact h
    ·split
     ·exact h
     ·exact oM
   ·split
    ·exact ax h (oh p _ {m with world:=_})
    ·split
     ·trivial
     ·rename_i e2;have a:=U7 e2;exact ax (Zx h a) (oh p _ {m with world:=_})
     ·rename_i e2;have a:=U7 e2;exact Zx h a
     ·rename_i e2;have a:=U7 e2;exact ax (Zx h a) (oh p _ (Machine.advanceTo {m with world:=_} _))
theorem Dx (p:Program)(m:Machine):HC m.world.drawn (ask p m):=by
 unfold ask;split
 ·split
  ·trivial
  ·rename_i e;have h:=U7 e;clear e;split
   ·rename_i b e;have a:=look_ok p m.gs m.rest ‹World›;rw[e]at a;exact ax (Zx h a) (jX p b)
   ·rename_i e _;have a:=look_ok p m.gs m.rest ‹World›;exact ax h a
  ·rename_i e;have h:=U7 e;exact ax h (jX p {m with world:=_})
 ·exact jX p m
theorem E5 (p:Program)(m:Machine):HC m.world.drawn (move p m):=by
 unfold move;split
 ·split
  ·exact Ze _
  ·trivial
 ·split
  ·split
   ·exact Ze _
   ·exact Dx p {m with rest:=_}
  ·exact Dx p m
theorem Ee (p:Program)(m:Machine):G6 m.world.drawn (step p m):=by
 unfold step stepT;have h:=E5 p m;generalize move p m=v at h;cases v with
 |goroutine b i=>
  have a:=yz p b i true;simp only[];generalize (runT p b i true).1=s at a⊢;cases s with
  |next m2=>exact Zx h a
  |_=>trivial
 |machine s c=>exact h
theorem hJ {p:Program}:∀(n:Nat) {m a:Machine},runN p n m=.next a->m.world.drawn<=a.world.drawn
 |0,m,a,h=>by cases h;exact Ze _
 |n+1,m,a,h=>by
  have b:=Ee p m;unfold runN at h;split at h
  ·rename_i c e;rw[e]at b;exact Zx b (hJ n h)
  ·rename_i e;exact absurd h (e _)
theorem tp {P:Program}{f:FuncId}{args:Array Value}{w:World}{R:Ending->World->Prop}(h:Calls P f args w R)(k:∀e a,R e a->∃v,e=.returned v):
  Calls P f args w fun e a=>R e a/\w.drawn<=a.drawn:=by
 intro d;obtain⟨e,a,g,b,c,i⟩:=h d;refine⟨e,a,g,⟨b,?_⟩,c,i⟩;obtain⟨v,rfl⟩:=k e a b;obtain⟨n,j⟩:=c;exact hJ n j
end Go.Ev
