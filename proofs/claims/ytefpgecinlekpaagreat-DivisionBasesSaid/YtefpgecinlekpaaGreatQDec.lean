/- What the library's sort answers at terms and any order; the same for terms with rational coefficients. -/
import Derived.Test.YtefpgecinlekpaaGreatQPol
import Derived.Test.YtefpgecinlekpaaGreatProg
set_option maxHeartbeats 16000000
set_option maxRecDepth 100000
namespace Go.Num
def insQ (o:List (List Int))(t:Qm):List Qm->List Qm
 |[]=>[t]
 |u::us=>bif Go.Ev.ltF (Wd o t.2 u.2) (.ofNat 0)then u::insQ o t us else t::u::us
def U3 (o:List (List Int)):List Qm->List Qm
 |[]=>[]
 |t::ts=>insQ o t (U3 o ts)
theorem insQ_perm (o:List (List Int))(t:Qm):∀ts,(insQ o t ts).Perm (t::ts)
 |[]=>.refl _
 |u::us=>by
  unfold insQ
  cases Go.Ev.ltF (Wd o t.2 u.2) (.ofNat 0)with
  |true=>exact((insQ_perm o t us).cons u).trans (List.Perm.swap ..)
  |false=>exact .refl _
theorem VI (o:List (List Int)):∀ts,(U3 o ts).Perm ts
 |[]=>.refl _
 |t::ts=>(insQ_perm o t _).trans ((VI o ts).cons t)
end Go.Num
namespace Go.Proofs.YtefpgecinlekpaaGreat
open Go.Ev Go.Num
theorem isNeg_ltF (o:List (List Int))(m n:List Nat):isNeg (Wd o m n)=ltF (Wd o m n) (.ofNat 0):=by
 rcases Vm o m n with h|h|h<;>rw[h]<;>rfl
theorem VT.mono {c:List PL}{t:Qm}(h:VT c t):monO c=some t.2:=by
 obtain⟨n,a,d,b,rfl,-,hm⟩:=h
 exact monO_term hm
theorem VT.mM {c:List PL}{t:Qm}(h:VT c t):S7 c=t.2:=by unfold S7;rw[h.mono];rfl
theorem VT.isT {c:List PL}{t:Qm}(h:VT c t):isTerm c=true:=by unfold isTerm;rw[h.mono];rfl
theorem XJ.terms {es:List (List PL)}{ts:List Qm}(h:XJ es ts):Terms es:=by
 induction h with
 |nil=>intro c hc;cases hc
 |cons h _ ih=>
  intro c hc
  rcases Zk.1 hc with rfl|hc
  ·exact h.isT
  ·exact ih c hc
theorem XJ.ins {o:List (List Int)}{c:List PL}{t:Qm}(hc:VT c t){es:List (List PL)}{ts:List Qm}(h:XJ es ts):XJ (insO o c es) (insQ o t ts):=by
 induction h with
 |nil=>exact .cons hc .nil
 |@cons d u es ts hd h ih=>
  unfold insO insQ
  have e:isNeg (VE o d c)=ltF (Wd o t.2 u.2) (.ofNat 0):=by unfold VE;rw[hc.mM,hd.mM];exact isNeg_ltF ..
  rw[e]
  cases ltF (Wd o t.2 u.2) (.ofNat 0)with
  |true=>exact .cons hd ih
  |false=>exact .cons hc (.cons hd h)
theorem XJ.sort {o:List (List Int)}{es:List (List PL)}{ts:List Qm}(h:XJ es ts):XJ (Ut o es) (U3 o ts):=by
 induction h with
 |nil=>exact .nil
 |cons hd h ih=>exact XJ.ins hd ih
def intO:PL->Option Int
 | .int .i64 z=>bif ltF (.negSucc 1000) z&&ltF z (.ofNat 1001)then some z else none
 |_=>none
def rowO (c:List PL):Option (List Int):=bif Nat.beq c.length 8 then Xl intO c else none
def ordOf:PL->Option (List (List Int))
 | .nilS=>some []
 | .lst rows=>bif Nat.blt rows.length 1000000 then Xl rowO rows else none
 |_=>none
theorem intO_spec {l:PL}{z:Int}(h:intO l=some z):l=.int .i64 z/\-1000<=z/\z<=1000:=by
 unfold intO at h
 split at h
 ·obtain⟨h1,rfl⟩:=Xk h
  rw[Zo,TU,TU,decide_eq_true_eq,decide_eq_true_eq]at h1
  refine⟨rfl,?_,?_⟩
  ·have:=h1.1;omega
  ·have:=h1.2;simp only[ZH]at this;omega
 ·cases h
theorem intO_row:∀{c:List PL} {r:List Int},Xl intO c=some r->c=U4 r/\∀w∈r,-1000<=w/\w<=1000
 |[],r,h=>by cases h;exact⟨rfl,fun _ h=>by cases h⟩
 |x::c,r,h=>by
  simp only[Xl]at h
  split at h
  ·cases h
  ·rename_i z hz
   split at h
   ·cases h
   ·rename_i zs hzs
    cases h
    obtain⟨rfl,h1⟩:=intO_spec hz
    obtain⟨rfl,h2⟩:=intO_row hzs
    refine⟨rfl,fun e he=> ?_⟩
    rcases Zk.1 he with rfl|he
    ·exact h1
    ·exact h2 e he
theorem rowO_spec {c:List PL}{r:List Int}(h:rowO c=some r):c=U4 r/\Row8 r:=by
 obtain⟨h1,h2⟩:=XA h
 obtain⟨rfl,h3⟩:=intO_row h2
 exact⟨rfl,by simpa[rowP_len]using Zj h1,h3⟩
theorem rowO_list:∀{rows:List (List PL)} {o:List (List Int)},Xl rowO rows=some o->rows=o.map U4/\Tj o
 |[],r,h=>by cases h;exact⟨rfl,fun _ h=>by cases h⟩
 |x::c,r,h=>by
  simp only[Xl]at h
  split at h
  ·cases h
  ·rename_i z hz
   split at h
   ·cases h
   ·rename_i zs hzs
    cases h
    obtain⟨rfl,h1⟩:=rowO_spec hz
    obtain⟨rfl,h2⟩:=rowO_list hzs
    refine⟨rfl,fun e he=> ?_⟩
    rcases Zk.1 he with rfl|he
    ·exact h1
    ·exact h2 e he
theorem ordOf_spec {l:PL}{o:List (List Int)}(h:ordOf l=some o):IsO l o/\Tj o/\o.length<1000000:=by
 unfold ordOf at h
 split at h
 ·cases h;exact⟨.inr ⟨rfl,rfl⟩,(fun _ h=>by cases h),by simp⟩
 ·obtain⟨h1,h2⟩:=XA h
  obtain⟨rfl,h3⟩:=rowO_list h2
  refine⟨.lst,h3,?_⟩
  simpa using h1
 ·cases h
theorem intO_int {z:Int}(h1: -1000<=z)(h2:z<=1000):intO (.int .i64 z)=some z:=by
 have e1:ltF (.negSucc 1000) z=true:=by rw[TU,decide_eq_true_eq];omega
 have e2:ltF z (.ofNat 1001)=true:=by rw[TU,decide_eq_true_eq];simp only[ZH];omega
 simp only[intO,e1,e2,Bool.and_self,cond_true]
theorem intO_rowP:∀{r:List Int},(∀w∈r,-1000<=w/\w<=1000)->Xl intO (U4 r)=some r
 |[],_=>rfl
 |w::r,h=>by
  have ih:=intO_rowP (r:=r) fun x hx=>h x (Zc _ hx)
  obtain⟨h1,h2⟩:=h w (Zh ..)
  unfold U4 at ih
  simp only[U4,Zx,Xl,intO_int h1 h2,ih]
theorem rowO_rowP {r:List Int}(h:Row8 r):rowO (U4 r)=some r:=by
 have h1:Nat.beq (U4 r).length 8=true:=by rw[rowP_len,h.1];rfl
 simp only[rowO,h1,cond_true,intO_rowP h.2]
theorem rowO_map:∀{o:List (List Int)},Tj o->Xl rowO (o.map U4)=some o
 |[],_=>rfl
 |r::o,h=>by
  simp only[Zx,Xl,rowO_rowP (h r (Zh ..)),rowO_map fun x hx=>h x (Zc _ hx)]
theorem ordOf_of {l:PL}{o:List (List Int)}(sl:IsO l o)(ho:Tj o)(hl:o.length<1000000):ordOf l=some o:=by
 rcases sl with rfl|⟨h,rfl⟩
 ·have h1:Nat.blt (o.map U4).length 1000000=true:=blt_t (by simpa using hl)
  simp only[ordOf,h1,cond_true,rowO_map ho]
 ·have :o=[]:=by simpa using h
  subst this;rfl
def keyOf (H:List Blk)(i:Nat):DL->Option (List (List Int))
 | .p (.fn g [])=>bif Nat.beq g 134 then some []else none
 | .fn g [.ptr j vj 0 0]=>bif Nat.beq g 126&& !Nat.beq j i then
   match H[j]? with
   |some bj=>bif !bj.mp&&Nat.beq vj bj.ver then(match bj.ch with |[[.p lo]]=>ordOf lo|_=>none)else none
   |none=>none
   else none
 |_=>none
def S1 (args:List DV)(H:List Blk):Option (DV×List Blk):=
 match args with
 |[.one (.own i ver 0 n),.one (.p (.int .i64 (.ofNat 0))),.one (.p (.int .i64 (.ofNat n2))),.one (.p (.int .i64 (.ofNat lm))),.one fn]=>
  match keyOf H i fn with
  |some o=>bif Nat.blt lm 4611686018427387904 then
   match H[i]? with
   |some b=>match Xl (Xl unP) b.ch with
    |some es=>bif !b.mp&& !b.fz&&Nat.beq ver b.ver&&Nat.beq b.sz 12&&Nat.beq n es.length&&Nat.beq n2 es.length&&Nat.blt es.length 1000000&&es.all isTerm&&noDup es then some (.tup [],H.set i {b with ch:=(Ut o es).map (·.map .p)})else none
    |none=>none
   |none=>none
   else none
  |none=>none
 |[.one (.p .nilS),.one (.p (.int .i64 (.ofNat 0))),.one (.p (.int .i64 (.ofNat 0))),.one (.p (.int .i64 (.ofNat lm))),.one (.fn _ _)]=>bif Nat.blt lm 4611686018427387904 then some (.tup [],H)else none
 |_=>none
structure StdO (B:Base):Prop extends Std B where
 pdq:∀args H r,S1 args H=some r->B.E0.heap 150 args H=some r
theorem decCmp_ret {B:Base}(hB:Std B){lo:PL}{o:List (List Int)}(so:IsO lo o)(ho:Tj o)(hol:o.length<1000000){x y z u x2 y2 z2 u2:PL}{m n:List Nat}(hm:XF m)(hn:XF n):
  Ret B 126 [.agg (x::y::z::u::mo m),.agg (x2::y2::z2::u2::mo n),.one (.ref [lo])] (.one (.int .i64 (Wd o n m))):=by
 have hc:=pcmpO_ret hB so ho hn hm hol
 have m8:=hm.1
 have n8:=hn.1
 have tm:(moD m).take 8=moD m:=Ze (by rw[Xb];omega)
 have tn:(moD n).take 8=moD n:=Ze (by rw[Xb];omega)
 refine Ret.of (hB.tab _ _ rfl) ((hc.evt.and hB.evt).mono fun E K ⟨e1,hmd⟩=> ?_)
 simp only[EVS,EVN,EVF,reduceIte,Nat.reduceEqDiff,Nat.reduceLeDiff,Nat.reduceAdd,x126,hmd,MDS,e1,XT,Xb,m8,n8,tm,tn,XN,XP]
open Go.Ev
def zTerm:List PL:=[(.bool false),.nilS,(.bool false),.nilS,(.int .i64 (.ofNat 0)),(.int .i64 (.ofNat 0)),(.int .i64 (.ofNat 0)),(.int .i64 (.ofNat 0)),(.int .i64 (.ofNat 0)),(.int .i64 (.ofNat 0)),(.int .i64 (.ofNat 0)),(.int .i64 (.ofNat 0))]
def rmS:RM where
 m:=0
 m2:=9
 it:=10
 nx:=11
 ok:=12
 en:=13
 b:=0
 b2:=1
 klen:=8
 ntmps:=28
 results:=[(2,none)]
 pre0:=.region false [⟨(some 2),.move,[(.c (.one .nilS))],none,[]⟩]
 pre1:=.region false [⟨(some 6),.move,[(.t 0)],none,[]⟩,⟨(some 7),.lenMap,[(.t 6)],none,[]⟩,⟨(some 8),(.makeSlice 63 zTerm 128),[(.c (.one (.int .i64 (.ofNat 0)))),(.t 7)],none,[]⟩,⟨(some 3),.move,[(.t 8)],none,[]⟩]
 post:=.seq (.region false [⟨(some 25),.move,[(.t 3)],none,[]⟩,⟨(some 26),(.call 133),[(.t 25),(.c (.one (.fn 134 [])))],none,[]⟩]) (.seq (.region false [⟨(some 27),.move,[(.t 3)],none,[]⟩,⟨(some 2),.move,[(.t 27)],none,[]⟩]) .ret)
 tail:=[⟨(some 14),(.extract 0),[(.t 13)],none,[0]⟩,⟨(some 15),(.extract 1),[(.t 13)],none,[0]⟩,⟨(some 4),(.alloc 51 [(.int .i64 (.ofNat 0)),(.int .i64 (.ofNat 0)),(.int .i64 (.ofNat 0)),(.int .i64 (.ofNat 0)),(.int .i64 (.ofNat 0)),(.int .i64 (.ofNat 0)),(.int .i64 (.ofNat 0)),(.int .i64 (.ofNat 0))]),[],none,[]⟩,⟨(some 5),(.alloc 61 [(.bool false),.nilS,(.bool false),.nilS]),[],none,[]⟩,⟨none,(.store 8),[(.t 4),(.t 14)],none,[3,1,0,1,3,4]⟩,⟨none,(.store 4),[(.t 5),(.t 15)],none,[4,2,5,0,1,2,3,4,5]⟩]
 rb:=.seq (.region false [⟨(some 16),(.load true 4),[(.t 5)],none,[]⟩,⟨(some 17),(.call 132),[(.t 16)],none,[]⟩,⟨(some 18),(.bin .neq),[(.t 17),(.c (.one (.int .i64 (.ofNat 0))))],none,[]⟩]) (.cond (.t 18) (.region false [⟨(some 19),.move,[(.t 3)],none,[]⟩,⟨(some 20),(.load true 4),[(.t 5)],none,[]⟩,⟨(some 21),(.load true 8),[(.t 4)],none,[]⟩,⟨(some 22),(.build zTerm [(0,4),(4,8)]),[(.t 20),(.t 21)],none,[]⟩,⟨(some 23),(.buildSlice 63 zTerm 1 [0]),[(.t 22)],none,[]⟩,⟨(some 24),(.append 63 12 128),[(.t 19),(.t 23)],none,[]⟩,⟨(some 3),.move,[(.t 24)],none,[]⟩]) .skip)
theorem rmS_ok:RMFun Tryz.prog 91 rmS:=by
 refine⟨⟨Tryz.f91,_,_,_,_,_,_,_,_,_,_,_,_,_,Tryz.func91,rfl,by kernel_rfl,by kernel_rfl,by kernel_rfl,by kernel_rfl,by kernel_rfl,by kernel_rfl,?_⟩⟩
 refine⟨⟨rfl,rfl,rfl⟩,⟨_,rfl,rfl,rfl,51,61,by kernel_rfl⟩,⟨rfl,rfl,rfl⟩,⟨rfl,rfl,rfl⟩,⟨rfl,rfl,rfl⟩,by kernel_rfl,by kernel_rfl,?_,?_⟩
 ·exact⟨by decide,by decide,by decide,by decide,by decide⟩
 ·exact⟨by decide,by decide,by decide⟩
end Go.Proofs.YtefpgecinlekpaaGreat
namespace Go.Proofs.YtefpgecinlekpaaGreat
open Go.Ev Go.Num
def nz (t:List PL):Bool:=match t with
 |_::.lst (_::_)::_=>true
 |_=>false
theorem ex2 {α β:Type}{p q:α->β->Prop}{x:α}{y:β}(h:p x y)(k:q x y):∃x y,p x y/\q x y:=⟨x,y,h,k⟩
abbrev oB (lo:PL):Blk:=⟨false,0,1,[[.p lo]],false,35⟩
theorem pdqAnsO_eq {H:List Blk}{i v j:Nat}{es:List (List PL)}{ty lm:Nat}{lo:PL}{o:List (List Int)}(so:IsO lo o)(ho:Tj o)(hol:o.length<1000000)(hi:H[i]? =some ⟨false,v,12,pc es,false,ty⟩)(hj:H[j]? =some (oB lo))(hne:j≠i)(ht:Terms es)(hd:noDup es=true)(hl:es.length<1000000)(hlm:lm<100):
  S1 [.one (.own i v 0 es.length),.one (.p (.int .i64 (.ofNat 0))),.one (.p (.int .i64 (.ofNat es.length))),.one (.p (.int .i64 (.ofNat lm))),.one (.fn 126 [.ptr j 0 0 0])] H=
   some (.tup [],H.set i ⟨false,v,12,pc (Ut o es),false,ty⟩):=by
 have h1:Nat.blt lm 4611686018427387904=true:=blt_t (by omega)
 have h2:Nat.blt es.length 1000000=true:=blt_t (by omega)
 have h3:es.all isTerm=true:=ZP.2 ht
 have h4:Nat.beq j i=false:=by
  cases h:Nat.beq j i with
  |false=>rfl
  |true=>exact absurd (Zj h) hne
 have h5:=ordOf_of so ho hol
 simp only[S1,keyOf,YH,h1,h4,h5,hi,hj,unP_pc,h2,h3,hd,Bool.and_self,Bool.not_false,cond_true]
 rfl
theorem sortT_ret {B:Base}(hB:StdO B){H:List Blk}{i v j:Nat}{es:List (List PL)}{ty:Nat}{lo:PL}{o:List (List Int)}(so:IsO lo o)(ho:Tj o)(hol:o.length<1000000)(hi:H[i]? =some ⟨false,v,12,pc es,false,ty⟩)(hj:H[j]? =some (oB lo))(hne:j≠i)(ht:Terms es)(hd:noDup es=true)(hl:es.length<60000):
  Va B 125 [.one (.own i v 0 es.length),.one (.fn 126 [.ptr j 0 0 0])] H (.tup []) (H.set i ⟨false,v,12,pc (Ut o es),false,ty⟩):=by
 obtain⟨lm,hlm,h1⟩:=T6 hB.toStd (n:=es.length) (by omega)
 have h2:=Va.base (B:=B) (hB.pdq _ _ _ (pdqAnsO_eq so ho hol hi hj hne ht hd (by omega) hlm))
 have f1:es.length%18446744073709551616=es.length:=Zd (by omega)
 refine Va.of (hB.tab _ _ rfl) ((h1.evt.and (h2.evt.and hB.toStd.evt)).mono fun E K ⟨e1,e2,hmd⟩=> ?_)
 simp only[EVS,EVH,EVN,reduceIte,Nat.reduceEqDiff,Nat.reduceLeDiff,Nat.reduceAdd,x125,hmd,MDS,e1,e2,f1]
theorem cloneT_ret {B:Base}(hB:Std B){es:List (List PL)}(hes:∀c∈es,c.length=12)(hl:es.length<1000000)(b0:Blk):
  Va B 124 [.one (.p (.lst es))] [b0] (.one (.own 1 1 0 es.length)) [b0,⟨false,1,12,pc es,false,63⟩]:=by
 have hcp:=fun(h:HF)=>(Sl.lst (es:=es)).chunks (h:=h)
 have f1:es.length*128<=lim:=by unfold lim;omega
 have f2:es.length<=9223372036854775807:=by omega
 have hn:WX false [.one (.p (.lst es)),.one (.p .nilS)]=some ⟨.one (.p (.bool false)),[],[],[]⟩:=rfl
 have f5:(es.map (·.map DL.p)).all (fun c=>decide (c.length=12))=true:=by
  rw[ZP]
  intro c hc
  simp only[ZM]at hc
  obtain⟨d,hd,rfl⟩:=hc
  simp[hes d hd]
 have f6:(es.map (·.map DL.p)).length=es.length:=by simp
 refine Va.of (hB.tab _ _ rfl) (hB.evt.mono fun E K hmd=> ?_)
 simp only[EVS,EVH,EVN,reduceIte,Nat.reduceEqDiff,Nat.reduceLeDiff,Nat.reduceAdd,x124,hcp,f1,f2,hn,f5,f6,pc]
theorem sortN_ret {B:Base}(hB:StdO B){H:List Blk}{g:Nat}{caps:List DL}:Va B 125 [.one (.p .nilS),.one (.fn g caps)] H (.tup []) H:=by
 obtain⟨lm,hlm,h1⟩:=T6 hB.toStd (n:=0) (by omega)
 have h0:Nat.blt lm 4611686018427387904=true:=blt_t (by omega)
 have h2:=Va.base (B:=B) (hB.pdq [.one (.p .nilS),.one (.p (.int .i64 (.ofNat 0))),.one (.p (.int .i64 (.ofNat 0))),.one (.p (.int .i64 (.ofNat lm))),.one (.fn g caps)] H (.tup [],H) (by simp only[S1,h0,cond_true]))
 refine Va.of (hB.tab _ _ rfl) ((h1.evt.and (h2.evt.and hB.toStd.evt)).mono fun E K ⟨e1,e2,hmd⟩=> ?_)
 simp only[EVS,EVH,EVN,reduceIte,Nat.reduceEqDiff,Nat.reduceLeDiff,Nat.reduceAdd,x125,hmd,MDS,e1,e2]
theorem cloneN_ret {B:Base}(hB:Std B)(H:List Blk):Va B 124 [.one (.p .nilS)] H (.one (.p .nilS)) H:=by
 have hn:WX false [.one (.p .nilS),.one (.p .nilS)]=some ⟨.one (.p (.bool true)),[],[],[]⟩:=rfl
 refine Va.of (hB.tab _ _ rfl) (hB.evt.mono fun E K hmd=> ?_)
 simp only[EVS,EVH,EVN,reduceIte,Nat.reduceEqDiff,Nat.reduceLeDiff,x124,hn]
def DistQ (ts:List Qm):Prop:=(ts.map (·.2)).Nodup
theorem distQ_noDup:∀{es:List (List PL)} {ts:List Qm},XJ es ts->DistQ ts->noDup es=true
 |_,_,.nil,_=>rfl
 |_,_,.cons (x:=c) (y:=t) hc h,hd=>by
  obtain⟨h1,h2⟩:=List.nodup_cons.1 hd
  simp only[noDup,Zo]
  refine⟨ZP.2 fun d hdm=> ?_,distQ_noDup h h2⟩
  obtain⟨i,hi⟩:=Z2.1 hdm
  have hlen:=h.length
  obtain⟨hil,-⟩:=Zb.1 hi
  rename_i es ts
  have hit:i<ts.length:=by omega
  obtain⟨x,hx,hr⟩:=h.get i _ (Zf hit)
  rw[hi]at hx;cases hx
  rw[hc.mM,hr.mM]
  cases he:eqLs Nat.beq t.2 (ts[i]).2 with
  |false=>rfl
  |true=>
   exfalso
   apply h1
   show t.2∈ts.map (·.2)
   rw[eqLs_eq (fun _ _=>Zj) _ _ he]
   exact ZM.2 ⟨_,YP hit,rfl⟩
theorem decreasing_ret {B:Base}(hB:StdO B){lp lo:PL}{ts:List Qm}{o:List (List Int)}(so:IsO lo o)(ho:Tj o)(hol:o.length<1000000)(hp:PQ lp ts)(hd:DistQ ts)(hl:ts.length<60000):
  ∃r,Ret B 83 [.one lp,.one lo] (.one r)/\PQ r (U3 o ts):=by
 obtain⟨es,sl,hp⟩:=hp
 have el:=hp.length
 have hmk:Vj 126 [.one (.ptr 0 0 0 0)]=some ⟨.one (.fn 126 [.ptr 0 0 0 0]),[],[],[]⟩:=rfl
 rcases sl with rfl|⟨rfl,rfl⟩
 ·have hnd:=distQ_noDup hp hd
  have hT:=hp.terms
  have h12:∀c∈es,c.length=12:=fun c hc=>Sa.len (XJ.forms hp c hc)
  have h1:=cloneT_ret hB.toStd h12 (by omega) (oB lo)
  have h2:=sortT_ret hB so ho hol (H:=[oB lo,⟨false,1,12,pc es,false,63⟩]) (i:=1) (j:=0) (v:=1) rfl rfl (by decide) hT hnd (by omega)
  have hsl:(Ut o es).length=es.length:=(Tb es).length_eq
  refine⟨.lst (Ut o es),Ret.of (hB.tab _ _ rfl) ((h1.evt.and (h2.evt.and hB.toStd.evt)).mono fun E K ⟨e1,e2,hmd⟩=> ?_),⟨_,.lst,hp.sort⟩⟩
  have htk:=V5 (Ut o es) (YG hsl)
  have hf:=fun h=>Uv 5 h (Ut o es)
  simp only[EVS,EVH,EVN,reduceIte,Nat.reduceEqDiff,Nat.reduceLeDiff,Nat.reduceAdd,x83,hmk,hmd,MDS,e1,e2,htk,hf,XR,hsl,Zg]
 ·cases hp
  have h1:=cloneN_ret hB.toStd [oB lo]
  have h2:=sortN_ret hB (H:=[oB lo]) (g:=126) (caps:=[.ptr 0 0 0 0])
  refine⟨.nilS,Ret.of (hB.tab _ _ rfl) ((h1.evt.and (h2.evt.and hB.toStd.evt)).mono fun E K ⟨e1,e2,hmd⟩=> ?_),⟨[],.nil,.nil⟩⟩
  simp only[EVS,EVH,EVN,reduceIte,Nat.reduceEqDiff,Nat.reduceLeDiff,Nat.reduceAdd,x83,hmk,hmd,MDS,e1,e2]
end Go.Proofs.YtefpgecinlekpaaGreat
