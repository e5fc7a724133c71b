/- Polynomials of the reference with rational coefficients: Times, Scale, Add, Sub, Mul, By. -/
import Derived.Test.YtefpgecinlekpaaGreatRDivB
set_option maxHeartbeats 16000000
set_option maxRecDepth 100000
namespace Go.Proofs.YtefpgecinlekpaaGreat
open Go.Ev Go.Num
def VT (c:List PL)(t:Qm):Prop:=∃n a d b,c=.bool n::a::.bool d::b::mo t.2/\IsQ [.bool n,a,.bool d,b] t.1/\XF t.2
abbrev XJ (es:List (List PL))(ts:List Qm):Prop:=All2 VT es ts
def PQ (l:PL)(ts:List Qm):Prop:=∃es,Sl l es/\XJ es ts
def Sz (ts:List Qm):Prop:=∀t∈ts,Sq t.1
def Mok (ts:List Qm):Prop:=∀t∈ts,XF t.2
theorem Sz.tail {t:Qm}{ts:List Qm}(h:Sz (t::ts)):Sz ts:=fun x hx=>h x (Zc _ hx)
theorem Sz.head {t:Qm}{ts:List Qm}(h:Sz (t::ts)):Sq t.1:=h t (Zh ..)
theorem Sz.nil:Sz []:=fun _ h=>by cases h
theorem IsQ.len {c:List PL}{x:Rat}(h:IsQ c x):∃n a d b,c=[.bool n,a,.bool d,b]:=by
 obtain⟨n,a,d,b,rfl,-,-⟩:=h;exact⟨n,a,d,b,rfl⟩
theorem XJ.mok {es:List (List PL)}{ts:List Qm}(h:XJ es ts):Mok ts:=by
 intro t ht
 obtain⟨i,hi⟩:=Z2.1 ht
 obtain⟨c,-,hc⟩:=h.get i t hi
 obtain⟨n,a,d,b,-,-,h⟩:=hc
 exact h
theorem PQ.mok {l:PL}{ts:List Qm}(h:PQ l ts):Mok ts:=by
 obtain⟨es,-,h⟩:=h;exact h.mok
theorem VT.mk {n:Bool}{a:PL}{d:Bool}{b:PL}{x:Rat}{m:List Nat}(h:IsQ [.bool n,a,.bool d,b] x)(hm:XF m):VT (.bool n::a::.bool d::b::mo m) (x,m):=⟨n,a,d,b,rfl,h,hm⟩
theorem sgnF {x:Rat}(h:x≠0):eqF (sgn x.num) (.ofNat 0)=false:=by
 have :x.num≠0:=fun e=>h (Rat.num_eq_zero.1 e)
 unfold sgn;rw[if_neg this];split<;>rfl
theorem sgnT:eqF (sgn (0:Rat).num) (.ofNat 0)=true:=rfl
theorem timesQ_evt {B:Base}(hB:Std B){c:List PL}{z:Rat}(hc:IsQ c z)(hz:Sq z){m:List Nat}(hm:XF m):∀{es:List (List PL)} {ts:List Qm},XJ es ts->Sz ts->(∀t∈ts,XF (Xh m t.2))->
  ∃outs,XJ outs (Wo z m ts)/\Evt B fun E _=>TimesR E c m es outs
 |_,_,.nil,_,_=>⟨[],.nil,Evt.of fun _ _=>.nil⟩
 |_,_,.cons (y:=t) ht h,hs,ho=>by
  obtain⟨outs,h1,h2⟩:=timesQ_evt hB hc hz hm h hs.tail fun t ht=>ho t (Zc _ ht)
  obtain⟨n,a,d,b,rfl,q1,q3⟩:=ht
  have hs1:=hs.head
  have hs2:=ho t (Zh ..)
  have g1:=rmonoMul_ret hB hm q3 hs2
  obtain⟨r,g2,hr⟩:=rMul_q hB hc q1 hz hs1
  obtain⟨n',a',d',b',rfl⟩:=hr.len
  exact⟨_,.cons (VT.mk hr hs2) h1,(h2.and (g1.evt.and g2.evt)).mono fun E K ⟨e1,e2,e3⟩=>.cons q3 hs2 e2 e3 e1⟩
theorem rtimes_q {B:Base}(hB:Std B){c:List PL}{z:Rat}(hc:IsQ c z)(hz:Sq z)(h0:z≠0){m:List Nat}(hm:XF m){l:PL}{ts:List Qm}(hp:PQ l ts)(hs:Sz ts)(ho:∀t∈ts,XF (Xh m t.2))(hl:ts.length<1000000):
  ∃outs,Ret B 77 [.agg c,.agg (mo m),.one l] (.tup [.one (.lst outs),.one (.int .i64 (.ofNat 0))])/\XJ outs (Wo z m ts):=by
 obtain⟨es,sl,hp⟩:=hp
 have hel:=hp.length
 obtain⟨outs,h1,h2⟩:=timesQ_evt hB hc hz hm hp hs ho
 have h3:=rSign_q hB hc
 obtain⟨n,a,d,b,rfl⟩:=hc.len
 refine⟨outs,Ret.of (hB.tab _ _ rfl) ((h2.and (h3.evt.and (hB.evt.and (Evt.ge (es.length+1))))).mono fun E K ⟨e1,e2,hmd,hK⟩=> ?_),h1⟩
 obtain⟨T',G',v',g1,g2⟩:=times_go (K:=K) hm.1 hmd sl (by omega) es outs e1 0 K 0 [] [] (by simp) (by simp) (by simp) (by omega)
 have hq:=sgnF h0
 simp only[ZL,Zw,pc,ZZ]at g1 g2
 have hm8:=hm.1
 simp only[EVS,EVN,reduceIte,Nat.reduceEqDiff,Nat.reduceLeDiff,Nat.reduceAdd,x77,XT,Xb,hm8,hmd,MDS,e2,hq,g1,g2]
 have ht:=V5 outs (Zg _)
 have hf:=fun h=>Uv 5 h outs
 simp only[pc]at ht hf
 simp only[EVS,EVN,ZU,ht,hf,Zg]
theorem rtimes_q0 {B:Base}(hB:Std B){c:List PL}(hc:IsQ c 0){m:List Nat}(hm:XF m)(l:PL):
  Ret B 77 [.agg c,.agg (mo m),.one l] (.tup [.one .nilS,.one (.int .i64 (.ofNat 0))]):=by
 have h3:=rSign_q hB hc
 obtain⟨n,a,d,b,rfl⟩:=hc.len
 refine Ret.of (hB.tab _ _ rfl) ((h3.evt.and hB.evt).mono fun E K ⟨e2,hmd⟩=> ?_)
 have hq:=sgnT
 have hm8:=hm.1
 simp only[EVS,EVN,reduceIte,Nat.reduceEqDiff,Nat.reduceLeDiff,Nat.reduceAdd,x77,XT,Xb,hm8,hmd,MDS,e2,hq]
theorem rscale_q {B:Base}(hB:Std B){c:List PL}{z:Rat}(hc:IsQ c z)(hz:Sq z){l:PL}{ts:List Qm}(hp:PQ l ts)(hs:Sz ts)(hl:ts.length<1000000):
  ∃r,Ret B 36 [.agg c,.one l] (.one r)/\PQ r (if z=0 then[]else Wp z ts):=by
 have hmo:=hp.mok
 by_cases h0:z=0
 ·subst h0
  have h1:=rtimes_q0 hB hc zM_ok l
  obtain⟨n,a,d,b,rfl⟩:=hc.len
  refine⟨.nilS,Ret.of (hB.tab _ _ rfl) ((h1.evt.and hB.evt).mono fun E K ⟨e1,hmd⟩=> ?_),⟨[],.nil,by rw[if_pos rfl];exact .nil⟩⟩
  simp only[zM,mo,Zx,ZZ]at e1
  simp only[EVS,EVN,reduceIte,Nat.reduceEqDiff,Nat.reduceLeDiff,Nat.reduceAdd,x36,hmd,MDS,e1]
 ·obtain⟨outs,h1,h2⟩:=rtimes_q hB hc hz h0 zM_ok hp hs (fun t ht=>by rw[addM_zero (hmo t ht).1];exact hmo t ht) hl
  have e:Wo z zM ts=Wp z ts:=by
   unfold Wo Wp
   exact List.map_congr_left fun t ht=>by rw[addM_zero (hmo t ht).1]
  rw[e]at h2
  obtain⟨n,a,d,b,rfl⟩:=hc.len
  refine⟨.lst outs,Ret.of (hB.tab _ _ rfl) ((h1.evt.and hB.evt).mono fun E K ⟨e1,hmd⟩=> ?_),⟨outs,.lst,by rw[if_neg h0];exact h2⟩⟩
  simp only[zM,mo,Zx,ZZ]at e1
  simp only[EVS,EVN,reduceIte,Nat.reduceEqDiff,Nat.reduceLeDiff,Nat.reduceAdd,x36,hmd,MDS,e1]
theorem raddQ_evt {B:Base}(hB:Std B):∀(n:Nat) {ps qs:List (List PL)} {ts us:List Qm},ts.length+us.length<=n->XJ ps ts->XJ qs us->Sz ts->Sz us->
  ∃outs,XJ outs (V3 ts us)/\Evt B fun E _=>RAddR E ps qs outs:=by
 intro n
 induction n with
 |zero=>
  intro ps qs ts us hn hp hq h1 h2
  cases hp with
  |cons _ _=>simp at hn
  |nil=>cases hq with
   |cons _ _=>simp at hn
   |nil=>exact⟨[],by rw[We];exact .nil,Evt.of fun _ _=>.nil⟩
 |succ n ih=>
  intro ps qs ts us hn hp hq h1 h2
  cases hp with
  |nil=>cases hq with
   |nil=>exact⟨[],by rw[We];exact .nil,Evt.of fun _ _=>.nil⟩
   |@cons c u qs us hu h=>
    obtain⟨outs,g1,g2⟩:=ih (by simp at hn⊢;omega) (ps:=[]) (ts:=[]) .nil h h1 h2.tail
    rw[We]at g1⊢
    have hu':=hu
    obtain⟨x,y,z,w,rfl,-,q⟩:=hu'
    exact⟨_,.cons hu g1,g2.mono fun E K e=>.rightE q e⟩
  |@cons c t ps ts ht h=>cases hq with
   |nil=>
    obtain⟨outs,g1,g2⟩:=ih (by simp at hn⊢;omega) (qs:=[]) (us:=[]) h .nil h1.tail h2
    rw[WJ]at g1⊢
    have ht':=ht
    obtain⟨x,y,z,w,rfl,-,q⟩:=ht'
    exact⟨_,.cons ht g1,g2.mono fun E K e=>.leftE q e⟩
   |@cons c2 u qs us hu k=>
    simp only[Zi]at hn
    have ht':=ht
    have hu':=hu
    obtain⟨x,y,z,w,rfl,p1,p3⟩:=ht'
    obtain⟨x2,y2,z2,w2,rfl,q1,q3⟩:=hu'
    have hc:=rmonoCmp_ret hB p3.1 q3.1
    rw[US]
    rcases WB t.2 u.2 with e|e|e
    ·rw[if_pos e]
     rw[e]at hc
     obtain⟨outs,g1,g2⟩:=ih (by simp;omega) h (.cons hu k) h1.tail h2
     exact⟨_,.cons ht g1,(g2.and hc.evt).mono fun E K ⟨e1,e2⟩=>.leftC p3 q3 e2 e1⟩
    ·rw[if_neg (by rw[e];simp),if_pos e]
     rw[e]at hc
     obtain⟨outs,g1,g2⟩:=ih (by simp;omega) (.cons ht h) k h1 h2.tail
     exact⟨_,.cons hu g1,(g2.and hc.evt).mono fun E K ⟨e1,e2⟩=>.rightC p3 q3 e2 e1⟩
    ·rw[if_neg (by rw[e];simp),if_neg (by rw[e];simp)]
     rw[e]at hc
     obtain⟨outs,g1,g2⟩:=ih (by omega) h k h1.tail h2.tail
     obtain⟨r,g3,g4⟩:=rAdd_q hB p1 q1 h1.head h2.head
     have g5:=rSign_q hB g4
     obtain⟨n',a',d',b',rfl⟩:=g4.len
     by_cases h0:t.1+u.1=0
     ·rw[if_pos h0]
      rw[h0]at g5
      exact⟨_,g1,(g2.and (hc.evt.and (g3.evt.and g5.evt))).mono fun E K ⟨e1,e2,e3,e4⟩=>.zero p3 q3 e2 e3 e4 e1⟩
     ·rw[if_neg h0]
      exact⟨_,.cons (VT.mk g4 p3) g1,(g2.and (hc.evt.and (g3.evt.and g5.evt))).mono fun E K ⟨e1,e2,e3,e4⟩=>.both p3 q3 e2 e3 e4 (sgnF h0) e1⟩
theorem raddq_ret {B:Base}(hB:Std B){lp lq:PL}{ts us:List Qm}(hp:PQ lp ts)(hq:PQ lq us)(h1:Sz ts)(h2:Sz us)(l1:ts.length<1000000)(l2:us.length<1000000):
  ∃outs,Ret B 28 [.one lp,.one lq] (.one (.lst outs))/\XJ outs (V3 ts us):=by
 obtain⟨ps,sp,hp⟩:=hp
 obtain⟨qs,sq,hq⟩:=hq
 have lp:=hp.length
 have lq:=hq.length
 obtain⟨outs,g1,g2⟩:=raddQ_evt hB _ (Zg _) hp hq h1 h2
 refine⟨outs,Ret.of (hB.tab _ _ rfl) ((g2.and (hB.evt.and (Evt.ge (ps.length+qs.length+1)))).mono fun E K ⟨e1,hmd,hK⟩=> ?_),g1⟩
 obtain⟨T',G',v',k1,k2⟩:=add_go (K:=K) hmd sp sq (by omega) (by omega) ps qs outs e1 0 0 K 0 [] [] (by simp) (by simp) (by simp) (by simp) (by simp) (by omega)
 simp only[ZL,Zw,pc,ZZ]at k1 k2
 simp only[EVS,EVN,reduceIte,Nat.reduceEqDiff,Nat.reduceLeDiff,Nat.reduceAdd,x28,k1,k2]
 have ht:=V5 outs (Zg _)
 have hf:=fun h=>Uv 5 h outs
 simp only[pc]at ht hf
 simp only[EVS,EVN,ZU,ht,hf,Zg]
theorem Sq.neg {x:Rat}(h:Sq x):Sq (-x):=by
 unfold Sq;rw[Rat.neg_num,Rat.neg_den,Int.natAbs_neg];exact h
theorem W6 {c:List PL}{es:List (List PL)}(hes:∀d∈es,d.length=12)(h:HF):X6 12 h (.p (.lst (c::es))) 1 none=some (.p (.lst es),[]):=by
 have hc:TK 12 (c::es)[1]? =true:=by
  cases es with
  |nil=>rfl
  |cons d es=>exact beq_t (hes d (by simp))
 have h1:Nat.ble 1 (es.length+1)=true:=T5 (by omega)
 have h2:Nat.ble (es.length+1) (es.length+1)=true:=T5 (Zg _)
 simp only[X6,Option.getD_none,Zi,h1,h2,hc,Bool.and_self,cond_true,List.take_succ_cons,Yc,List.drop_succ_cons,Yh]
theorem Sl.WL {l:PL}{c:List PL}{es:List (List PL)}(h:Sl l (c::es)):l=.lst (c::es):=by
 rcases h with h|⟨h,_⟩
 ·exact h
 ·cases h
def Sa (c:List PL):Prop:=∃x y z u m,c=x::y::z::u::mo m/\XF m
theorem Sa.len {c:List PL}(h:Sa c):c.length=12:=by
 obtain⟨x,y,z,u,m,rfl,h⟩:=h
 simp[Xt,h.1]
theorem pc_app (a b:List (List PL)):pc a++b.map (·.map DL.p)=pc (a++b):=by simp[pc]
inductive MergeQ (E:Oracle)(fN:Nat):List (List PL)->List (List PL)->List (List PL)->List (List PL)->List (List PL)->Prop
 |stopP {qs:List (List PL)}:MergeQ E fN [] qs [] [] qs
 |stopQ {c:List PL} {ps:List (List PL)}:MergeQ E fN (c::ps) [] [] (c::ps) []
 |left {x y z u x2 y2 z2 u2:PL} {m n:List Nat} {ps qs os ps' qs':List (List PL)} (hm:XF m) (hn:XF n) (hc:E.pure 95 [.agg (mo m),.agg (mo n)]=some (.one (.int .i64 (.ofNat 1)))) (h:MergeQ E fN ps ((x2::y2::z2::u2::mo n)::qs) os ps' qs'):
   MergeQ E fN ((x::y::z::u::mo m)::ps) ((x2::y2::z2::u2::mo n)::qs) ((x::y::z::u::mo m)::os) ps' qs'
 |right {x y z u x2 y2 z2 u2 w1 w2 w3 w4:PL} {m n:List Nat} {ps qs os ps' qs':List (List PL)} (hm:XF m) (hn:XF n) (hc:E.pure 95 [.agg (mo m),.agg (mo n)]=some (.one (.int .i64 (.negSucc 0)))) (hf:E.pure fN [.agg [x2,y2,z2,u2]]=some (.agg [w1,w2,w3,w4])) (h:MergeQ E fN ((x::y::z::u::mo m)::ps) qs os ps' qs'):
   MergeQ E fN ((x::y::z::u::mo m)::ps) ((x2::y2::z2::u2::mo n)::qs) ((w1::w2::w3::w4::mo n)::os) ps' qs'
 |zero {x y z u x2 y2 z2 u2 w1 w2 w3 w4 r1 r2 r3 r4:PL} {m n:List Nat} {ps qs os ps' qs':List (List PL)} (hm:XF m) (hn:XF n) (hc:E.pure 95 [.agg (mo m),.agg (mo n)]=some (.one (.int .i64 (.ofNat 0)))) (hf:E.pure fN [.agg [x2,y2,z2,u2]]=some (.agg [w1,w2,w3,w4]))
   (ha:E.pure 129 [.agg [x,y,z,u],.agg [w1,w2,w3,w4]]=some (.agg [r1,r2,r3,r4])) (hs:E.pure 132 [.agg [r1,r2,r3,r4]]=some (.one (.int .i64 (.ofNat 0)))) (h:MergeQ E fN ps qs os ps' qs'):
   MergeQ E fN ((x::y::z::u::mo m)::ps) ((x2::y2::z2::u2::mo n)::qs) os ps' qs'
 |both {x y z u x2 y2 z2 u2 w1 w2 w3 w4 r1 r2 r3 r4:PL} {m n:List Nat} {s:Int} {ps qs os ps' qs':List (List PL)} (hm:XF m) (hn:XF n) (hc:E.pure 95 [.agg (mo m),.agg (mo n)]=some (.one (.int .i64 (.ofNat 0)))) (hf:E.pure fN [.agg [x2,y2,z2,u2]]=some (.agg [w1,w2,w3,w4]))
   (ha:E.pure 129 [.agg [x,y,z,u],.agg [w1,w2,w3,w4]]=some (.agg [r1,r2,r3,r4])) (hs:E.pure 132 [.agg [r1,r2,r3,r4]]=some (.one (.int .i64 s))) (h0:eqF s (.ofNat 0)=false) (h:MergeQ E fN ps qs os ps' qs'):
   MergeQ E fN ((x::y::z::u::mo m)::ps) ((x2::y2::z2::u2::mo n)::qs) ((r1::r2::r3::r4::mo m)::os) ps' qs'
theorem mergeq_go {E:Oracle}{K fN:Nat}(hmd:E.mode=md)(hmf:md fN=.pure)(hfF:fnF fN=fN)(hfA:∀vs:List DV,fnA fN vs []=vs):∀(ps qs outs ps' qs':List (List PL)),MergeQ E fN ps qs outs ps' qs'->(∀d∈ps,d.length=12)->(∀d∈qs,d.length=12)->
  ∀(lp lq:PL) (k v:Nat) (o:List (List PL)) (G:List Blk),Sl lp ps->Sl lq qs->o.length+ps.length+qs.length<2000000->ps.length+qs.length<k->
  ∃T' G' v' lp' lq',Xa E K 0 [0,1,2,7] x92_1 k ⟨[(0,.one (.p lp)),(1,.one (.p lq)),(2,.one (.p (.fn fN []))),(7,.one (.own 0 v 0 o.length))],⟨false,v,12,pc o,false,63⟩::G⟩=some (.exit 0,⟨T',⟨false,v',12,pc (o++outs),false,63⟩::G'⟩)/\(Xf T' 0=some (.one (.p lp'))/\Xf T' 1=some (.one (.p lq'))/\Xf T' 2=some (.one (.p (.fn fN [])))/\Xf T' 7=some (.one (.own 0 v' 0 (o++outs).length)))/\Sl lp' ps'/\Sl lq' qs':=by
 have cv:∀(h:HF) (l:List DL),V6 E h [.one (.p (.fn fN [])),.agg l]=Wc E h fN [.agg l]:=fun h l=>by show Wc E h (fnF fN) (fnA fN [.agg l] [])=_;rw[hfF,hfA]
 have hv:∀(l:List DL),Xr E .callV [.one (.p (.fn fN [])),.agg l]=Wy E fN:=fun l=>by show Wy E (fnF fN)=_;rw[hfF]
 have hw:Xe E .callV=false:=rfl
 intro ps qs outs ps' qs' h
 induction h with
 |@stopP qs=>
  intro h12 k12 lp lq k v o G sp sq ho hk
  obtain⟨k,rfl⟩:∃k',k=k'+1:=⟨k-1,by omega⟩
  have :∃T',Xa E K 0 [0,1,2,7] x92_1 (k+1) ⟨[(0,.one (.p lp)),(1,.one (.p lq)),(2,.one (.p (.fn fN []))),(7,.one (.own 0 v 0 o.length))],⟨false,v,12,pc o,false,63⟩::G⟩=some (.exit 0,⟨T',⟨false,v,12,pc o,false,63⟩::G⟩)/\(Xf T' 0=some (.one (.p lp))/\Xf T' 1=some (.one (.p lq))/\Xf T' 2=some (.one (.p (.fn fN [])))/\Xf T' 7=some (.one (.own 0 v 0 o.length))):=by
   apply ex1
   ·rw[Xa]
    simp only[EVS,EVN,EVF,reduceIte,Nat.reduceEqDiff,x92_1,sp.len,ZA]
    rfl
   ·simp only[EVS,reduceIte,Nat.reduceEqDiff,and_self]
  obtain⟨T',g1,g2⟩:=this
  exact⟨T',G,v,lp,lq,by simpa using g1,by simpa using g2,sp,sq⟩
 |@stopQ c ps=>
  intro h12 k12 lp lq k v o G sp sq ho hk
  obtain⟨k,rfl⟩:∃k',k=k'+1:=⟨k-1,by omega⟩
  have :∃T',Xa E K 0 [0,1,2,7] x92_1 (k+1) ⟨[(0,.one (.p lp)),(1,.one (.p lq)),(2,.one (.p (.fn fN []))),(7,.one (.own 0 v 0 o.length))],⟨false,v,12,pc o,false,63⟩::G⟩=some (.exit 0,⟨T',⟨false,v,12,pc o,false,63⟩::G⟩)/\(Xf T' 0=some (.one (.p lp))/\Xf T' 1=some (.one (.p lq))/\Xf T' 2=some (.one (.p (.fn fN [])))/\Xf T' 7=some (.one (.own 0 v 0 o.length))):=by
   apply ex1
   ·rw[Xa]
    simp only[EVS,EVN,EVF,reduceIte,Nat.reduceEqDiff,x92_1,sp.len,sq.len,YA,ZA]
    rfl
   ·simp only[EVS,reduceIte,Nat.reduceEqDiff,and_self]
  obtain⟨T',g1,g2⟩:=this
  exact⟨T',G,v,lp,lq,by simpa using g1,by simpa using g2,sp,sq⟩
 |@left x y z u x2 y2 z2 u2 m n ps qs os ps' qs' hm hn hc h ih=>
  intro h12 k12 lp lq k v o G sp sq ho hk
  obtain⟨k,rfl⟩:∃k',k=k'+1:=⟨k-1,by omega⟩
  simp only[Zi]at ho hk
  obtain rfl:=Sl.WL sp
  obtain rfl:=Sl.WL sq
  have m8:=hm.1
  have n8:=hn.1
  have tm:(moD m).take 8=moD m:=Ze (by rw[Xb];omega)
  have tn:(moD n).take 8=moD n:=Ze (by rw[Xb];omega)
  have ip:=fun(hh:HF) (kd:IntKind)=>sp.idx (h:=hh) (k:=kd) (i:=0) (sz:=12) rfl (by simp[Xt,m8])
  have iq:=fun(hh:HF) (kd:IntKind)=>sq.idx (h:=hh) (k:=kd) (i:=0) (sz:=12) rfl (by simp[Xt,n8])
  have s1:=W6 (c:=x::y::z::u::mo m) (es:=ps) fun d hd=>h12 d (Zc _ hd)
  have s2:=W6 (c:=x2::y2::z2::u2::mo n) (es:=qs) fun d hd=>k12 d (Zc _ hd)
  have l1:0<ps.length+1:=by omega
  have l2:0<qs.length+1:=by omega
  have f2:(o.length+1)*128<=lim:=by unfold lim;omega
  have f3:o.length+1<=9223372036854775807:=by omega
  obtain⟨T',G',v',lp',lq',g1,g2,g3⟩:=ih (fun d hd=>h12 d (Zc _ hd)) k12 (.lst ps) (.lst ((x2::y2::z2::u2::mo n)::qs)) k (v+1) (o++[(x::y::z::u::mo m)]) (G++[⟨false,0,12,[.p x::.p y::.p z::.p u::moD m],false,63⟩]) .lst .lst (by simp only[Zm,Zi,Zw];omega) (by first |omega|(simp only[Zi];omega))
  refine⟨T',G',v',lp',lq',?_,by simpa using g2,g3⟩
  rw[Zq,ZX,Zm,ZT]at g1
  rw[Xa]
  simp only[EVS,EVN,EVF,reduceIte,Nat.reduceEqDiff,Nat.reduceLeDiff,Nat.reduceLT,Nat.reduceAdd,x92_1,l1,l2,ip,iq,m8,n8,tm,tn,f2,f3,s1,XT,Xb,Xt,XN,XP,hmd,MDS,hc,XR,WK]
  exact g1
 |@right x y z u x2 y2 z2 u2 w1 w2 w3 w4 m n ps qs os ps' qs' hm hn hc hf h ih=>
  intro h12 k12 lp lq k v o G sp sq ho hk
  obtain⟨k,rfl⟩:∃k',k=k'+1:=⟨k-1,by omega⟩
  simp only[Zi]at ho hk
  obtain rfl:=Sl.WL sp
  obtain rfl:=Sl.WL sq
  have m8:=hm.1
  have n8:=hn.1
  have tm:(moD m).take 8=moD m:=Ze (by rw[Xb];omega)
  have tn:(moD n).take 8=moD n:=Ze (by rw[Xb];omega)
  have ip:=fun(hh:HF) (kd:IntKind)=>sp.idx (h:=hh) (k:=kd) (i:=0) (sz:=12) rfl (by simp[Xt,m8])
  have iq:=fun(hh:HF) (kd:IntKind)=>sq.idx (h:=hh) (k:=kd) (i:=0) (sz:=12) rfl (by simp[Xt,n8])
  have s1:=W6 (c:=x::y::z::u::mo m) (es:=ps) fun d hd=>h12 d (Zc _ hd)
  have s2:=W6 (c:=x2::y2::z2::u2::mo n) (es:=qs) fun d hd=>k12 d (Zc _ hd)
  have l1:0<ps.length+1:=by omega
  have l2:0<qs.length+1:=by omega
  have f2:(o.length+1)*128<=lim:=by unfold lim;omega
  have f3:o.length+1<=9223372036854775807:=by omega
  obtain⟨T',G',v',lp',lq',g1,g2,g3⟩:=ih h12 (fun d hd=>k12 d (Zc _ hd)) (.lst ((x::y::z::u::mo m)::ps)) (.lst qs) k (v+1) (o++[(w1::w2::w3::w4::mo n)]) (G++[⟨false,0,12,[.p w1::.p w2::.p w3::.p w4::moD n],false,63⟩]) .lst .lst (by simp only[Zm,Zi,Zw];omega) (by first |omega|(simp only[Zi];omega))
  refine⟨T',G',v',lp',lq',?_,by simpa using g2,g3⟩
  rw[Zq,ZX,Zm,ZT]at g1
  rw[Xa]
  simp only[EVS,EVN,EVF,reduceIte,Nat.reduceEqDiff,Nat.reduceLeDiff,Nat.reduceLT,Nat.reduceAdd,x92_1,l1,l2,ip,iq,cv,hv,hw,m8,n8,tm,tn,f2,f3,s2,XT,Xb,Xt,XN,XP,hmd,hmf,MDS,hc,hf,XR,WK]
  exact g1
 |@zero x y z u x2 y2 z2 u2 w1 w2 w3 w4 r1 r2 r3 r4 m n ps qs os ps' qs' hm hn hc hf ha hs h ih=>
  intro h12 k12 lp lq k v o G sp sq ho hk
  obtain⟨k,rfl⟩:∃k',k=k'+1:=⟨k-1,by omega⟩
  simp only[Zi]at ho hk
  obtain rfl:=Sl.WL sp
  obtain rfl:=Sl.WL sq
  have m8:=hm.1
  have n8:=hn.1
  have tm:(moD m).take 8=moD m:=Ze (by rw[Xb];omega)
  have tn:(moD n).take 8=moD n:=Ze (by rw[Xb];omega)
  have ip:=fun(hh:HF) (kd:IntKind)=>sp.idx (h:=hh) (k:=kd) (i:=0) (sz:=12) rfl (by simp[Xt,m8])
  have iq:=fun(hh:HF) (kd:IntKind)=>sq.idx (h:=hh) (k:=kd) (i:=0) (sz:=12) rfl (by simp[Xt,n8])
  have s1:=W6 (c:=x::y::z::u::mo m) (es:=ps) fun d hd=>h12 d (Zc _ hd)
  have s2:=W6 (c:=x2::y2::z2::u2::mo n) (es:=qs) fun d hd=>k12 d (Zc _ hd)
  have l1:0<ps.length+1:=by omega
  have l2:0<qs.length+1:=by omega
  have f2:(o.length+1)*128<=lim:=by unfold lim;omega
  have f3:o.length+1<=9223372036854775807:=by omega
  obtain⟨T',G',v',lp',lq',g1,g2,g3⟩:=ih (fun d hd=>h12 d (Zc _ hd)) (fun d hd=>k12 d (Zc _ hd)) (.lst ps) (.lst qs) k v o (G++[⟨false,0,4,[[.p r1,.p r2,.p r3,.p r4]],false,61⟩]) .lst .lst (by omega) (by omega)
  refine⟨T',G',v',lp',lq',?_,g2,g3⟩
  rw[Xa]
  simp only[EVS,EVN,EVF,reduceIte,Nat.reduceEqDiff,Nat.reduceLeDiff,Nat.reduceAdd,x92_1,l1,l2,ip,iq,cv,hv,hw,m8,n8,tm,tn,s1,s2,XT,Xb,Xt,XN,XP,hmd,hmf,MDS,hc,hf,ha,hs]
  exact g1
 |@both x y z u x2 y2 z2 u2 w1 w2 w3 w4 r1 r2 r3 r4 m n s ps qs os ps' qs' hm hn hc hf ha hs h0 h ih=>
  intro h12 k12 lp lq k v o G sp sq ho hk
  obtain⟨k,rfl⟩:∃k',k=k'+1:=⟨k-1,by omega⟩
  simp only[Zi]at ho hk
  obtain rfl:=Sl.WL sp
  obtain rfl:=Sl.WL sq
  have m8:=hm.1
  have n8:=hn.1
  have tm:(moD m).take 8=moD m:=Ze (by rw[Xb];omega)
  have tn:(moD n).take 8=moD n:=Ze (by rw[Xb];omega)
  have ip:=fun(hh:HF) (kd:IntKind)=>sp.idx (h:=hh) (k:=kd) (i:=0) (sz:=12) rfl (by simp[Xt,m8])
  have iq:=fun(hh:HF) (kd:IntKind)=>sq.idx (h:=hh) (k:=kd) (i:=0) (sz:=12) rfl (by simp[Xt,n8])
  have s1:=W6 (c:=x::y::z::u::mo m) (es:=ps) fun d hd=>h12 d (Zc _ hd)
  have s2:=W6 (c:=x2::y2::z2::u2::mo n) (es:=qs) fun d hd=>k12 d (Zc _ hd)
  have l1:0<ps.length+1:=by omega
  have l2:0<qs.length+1:=by omega
  have f2:(o.length+1)*128<=lim:=by unfold lim;omega
  have f3:o.length+1<=9223372036854775807:=by omega
  obtain⟨T',G',v',lp',lq',g1,g2,g3⟩:=ih (fun d hd=>h12 d (Zc _ hd)) (fun d hd=>k12 d (Zc _ hd)) (.lst ps) (.lst qs) k (v+1) (o++[(r1::r2::r3::r4::mo m)]) (G++[⟨false,0,4,[[.p r1,.p r2,.p r3,.p r4]],false,61⟩,⟨false,0,12,[.p r1::.p r2::.p r3::.p r4::moD m],false,63⟩]) .lst .lst (by simp only[Zm,Zi,Zw];omega) (by first |omega|(simp only[Zi];omega))
  refine⟨T',G',v',lp',lq',?_,by simpa using g2,g3⟩
  rw[Zq,ZX,Zm,ZT]at g1
  rw[Xa]
  simp only[EVS,EVN,EVF,reduceIte,Nat.reduceEqDiff,Nat.reduceLeDiff,Nat.reduceLT,Nat.reduceAdd,x92_1,l1,l2,ip,iq,cv,hv,hw,m8,n8,tm,tn,f2,f3,s1,s2,XT,Xb,Xt,XN,XP,hmd,hmf,MDS,hc,hf,ha,hs,h0,XR,WK]
  exact g1
def TMap (E:Oracle)(fN:Nat)(c d:List PL):Prop:=∃x y z u w1 w2 w3 w4 m,c=x::y::z::u::mo m/\d=w1::w2::w3::w4::mo m/\XF m/\E.pure fN [.agg [x,y,z,u]]=some (.agg [w1,w2,w3,w4])
theorem mergeq_rest {E:Oracle}{K fN:Nat}{lq:PL}(hmd:E.mode=md)(hmf:md fN=.pure)(hfF:fnF fN=fN)(hfA:∀vs:List DV,fnA fN vs []=vs){all all2:List (List PL)}(sl:Sl lq all)(hl:all.length<1000000)(hall:All2 (TMap E fN) all all2):∀(d i k v:Nat) (o:List (List PL)) (G:List Blk),i+d=all.length->d<k->o.length+d<3000000->
  ∃T' G' v',Xa E K 0 [2,7,92,93,94] x92_2 k ⟨[(2,.one (.p (.fn fN []))),(7,.one (.own 0 v 0 o.length)),(92,.one (.p lq)),(93,.one (.p (.int .i64 (.ofNat all.length)))),(94,.one (.p (.int .i64 (.ofNat i))))],⟨false,v,12,pc o,false,63⟩::G⟩=
    some (.exit 3,⟨T',⟨false,v',12,pc (o++all2.drop i),false,63⟩::G'⟩)/\Xf T' 7=some (.one (.own 0 v' 0 (o++all2.drop i).length))
 |_,_,0,_,_,_,_,h,_=>by omega
 |0,i,k+1,v,o,G,hi,_,_=>by
  obtain rfl:i=all.length:=by omega
  have :∃T',Xa E K 0 [2,7,92,93,94] x92_2 (k+1) ⟨[(2,.one (.p (.fn fN []))),(7,.one (.own 0 v 0 o.length)),(92,.one (.p lq)),(93,.one (.p (.int .i64 (.ofNat all.length)))),(94,.one (.p (.int .i64 (.ofNat all.length))))],⟨false,v,12,pc o,false,63⟩::G⟩=
    some (.exit 3,⟨T',⟨false,v,12,pc o,false,63⟩::G⟩)/\Xf T' 7=some (.one (.own 0 v 0 o.length)):=by
   apply ex1
   ·rw[Xa]
    simp only[EVS,EVN,reduceIte,Nat.reduceEqDiff,x92_2,ZA]
    rfl
   ·simp only[EVS,reduceIte,Nat.reduceEqDiff]
  obtain⟨T',g1,g2⟩:=this
  have e:all2.drop all.length=[]:=Zp (by rw[hall.length];omega)
  exact⟨T',G,v,by rw[e];simpa using g1,by rw[e];simpa using g2⟩
 |d+1,i,k+1,v,o,G,hi,hk,ho=>by
  have hlt:i<all.length:=by omega
  have hll:=hall.length
  have hlt2:i<all2.length:=by omega
  obtain⟨c0,gq,x,y,z,u,w1,w2,w3,w4,m,rfl,hc2,hm,hid⟩:=hall.get i _ (Zf hlt2)
  have dr:all2.drop i=(w1::w2::w3::w4::mo m)::all2.drop (i+1):=by rw[Z1 hlt2,hc2]
  have cv:∀(h:HF) (l:List DL),V6 E h [.one (.p (.fn fN [])),.agg l]=Wc E h fN [.agg l]:=fun h l=>by show Wc E h (fnF fN) (fnA fN [.agg l] [])=_;rw[hfF,hfA]
  have hv:∀(l:List DL),Xr E .callV [.one (.p (.fn fN [])),.agg l]=Wy E fN:=fun l=>by show Wy E (fnF fN)=_;rw[hfF]
  have hw:Xe E .callV=false:=rfl
  have m8:=hm.1
  have tm:(moD m).take 8=moD m:=Ze (by rw[Xb];omega)
  have tm2:(moD m).drop 8=[]:=Zp (by rw[Xb];omega)
  have ip:=fun(hh:HF) (kd:IntKind)=>sl.idx (h:=hh) (k:=kd) (sz:=12) gq (by simp[Xt,m8])
  have f1:Xd .i64 (.ofNat (i+1))=.ofNat (i+1):=wrap_i64 (by omega)
  have f2:(o.length+1)*128<=lim:=by unfold lim;omega
  have f3:o.length+1<=9223372036854775807:=by omega
  obtain⟨T',G',v',g1,g2⟩:=mergeq_rest hmd hmf hfF hfA sl hl hall d (i+1) k (v+1) (o++[w1::w2::w3::w4::mo m]) (G++[⟨false,0,12,[.p x::.p y::.p z::.p u::moD m],false,63⟩,⟨false,0,12,[.p w1::.p w2::.p w3::.p w4::moD m],false,63⟩]) (by omega) (by omega) (by simp;omega)
  refine⟨T',G',v',?_,by rw[dr];simpa using g2⟩
  rw[Zq,ZX,Zm,ZT,<-dr]at g1
  rw[Xa]
  simp only[EVS,EVN,EVF,reduceIte,Nat.reduceEqDiff,Nat.reduceLeDiff,Nat.reduceLT,Nat.reduceAdd,x92_2,hlt,ip,cv,hv,hw,m8,tm,f1,f2,f3,XT,Xb,hmd,hmf,hid,XR,WK]
  exact g1
def mapQ (f:Rat->Rat)(ts:List Qm):List Qm:=ts.map fun t=>(f t.1,t.2)
structure FunQ (B:Base)(fN:Nat)(f:Rat->Rat):Prop where
 md:md fN=.pure
 fF:fnF fN=fN
 fA:∀vs:List DV,fnA fN vs []=vs
 ret:∀{c:List PL} {y:Rat},IsQ c y->Sq y->∃d,Ret B fN [.agg c] (.agg d)/\IsQ d (f y)
 sq:∀{y:Rat},Sq y->Sq (f y)
theorem VT.form {c:List PL}{t:Qm}(h:VT c t):Sa c:=by
 obtain⟨n,a,d,b,rfl,-,h⟩:=h
 exact⟨_,_,_,_,_,rfl,h⟩
theorem XJ.forms {es:List (List PL)}{ts:List Qm}(h:XJ es ts):∀c∈es,Sa c:=by
 induction h with
 |nil=>intro c hc;cases hc
 |cons h _ ih=>
  intro c hc
  rcases Zk.1 hc with rfl|hc
  ·exact VT.form h
  ·exact ih c hc
theorem mapQ_evt {B:Base}{fN:Nat}{f:Rat->Rat}(hf:FunQ B fN f):∀{qs:List (List PL)} {us:List Qm},XJ qs us->Sz us->∃qs2,XJ qs2 (mapQ f us)/\Evt B fun E _=>All2 (TMap E fN) qs qs2
 |_,_,.nil,_=>⟨[],.nil,Evt.of fun _ _=>.nil⟩
 |_,_,.cons (x:=c) (y:=u) hu h,hs=>by
  obtain⟨qs2,g1,g2⟩:=mapQ_evt hf h hs.tail
  have hu':=hu
  obtain⟨n,a,d,b,rfl,q,hm⟩:=hu'
  obtain⟨e,g3,g4⟩:=hf.ret q hs.head
  obtain⟨n',a',d',b',rfl⟩:=g4.len
  exact⟨_,.cons (VT.mk g4 hm) g1,(g2.and g3.evt).mono fun E K ⟨e1,e2⟩=>.cons ⟨_,_,_,_,_,_,_,_,_,rfl,rfl,hm,e2⟩ e1⟩
theorem mergeQ_evt {B:Base}(hB:Std B){fN:Nat}{f:Rat->Rat}(hf:FunQ B fN f):∀(n:Nat) {ps qs:List (List PL)} {ts us:List Qm},ts.length+us.length<=n->XJ ps ts->XJ qs us->Sz ts->Sz us->
  ∃outs ps' qs' qs2,XJ (outs++(ps'++qs2)) (V3 ts (mapQ f us))/\(Evt B fun E _=>MergeQ E fN ps qs outs ps' qs')/\(Evt B fun E _=>All2 (TMap E fN) qs' qs2)/\(∀c∈ps',Sa c)/\qs2.length=qs'.length/\ps'.length<=ps.length/\qs'.length<=qs.length/\outs.length<=ps.length+qs.length:=by
 intro n
 induction n with
 |zero=>
  intro ps qs ts us hn hp hq h1 h2
  cases hp with
  |cons _ _=>simp at hn
  |nil=>cases hq with
   |cons _ _=>simp at hn
   |nil=>exact⟨[],[],[],[],by rw[We];exact .nil,Evt.of fun _ _=>.stopP,Evt.of fun _ _=>.nil,(fun _ h=>by cases h),rfl,Zg _,Zg _,by simp⟩
 |succ n ih=>
  intro ps qs ts us hn hp hq h1 h2
  cases hp with
  |nil=>
   obtain⟨qs2,g1,g2⟩:=mapQ_evt hf hq h2
   have e1:=g1.length
   have e2:=hq.length
   simp only[mapQ,ZU]at e1
   exact⟨[],[],qs,qs2,by rw[We];exact g1,Evt.of fun _ _=>.stopP,g2,(fun _ h=>by cases h),by omega,Zg _,Zg _,by simp⟩
  |@cons c t ps ts ht h=>cases hq with
   |nil=>exact⟨[],c::ps,[],[],by rw[show mapQ f []=[]from rfl,WJ];simpa using(All2.cons ht h:XJ (c::ps) (t::ts)),Evt.of fun _ _=>.stopQ,Evt.of fun _ _=>.nil,XJ.forms (.cons ht h),rfl,Zg _,Zg _,by simp⟩
   |@cons c2 u qs us hu k=>
    simp only[Zi]at hn⊢
    have ht':=ht
    have hu':=hu
    obtain⟨x,y,z,w,rfl,p1,p3⟩:=ht'
    obtain⟨x2,y2,z2,w2,rfl,q1,q3⟩:=hu'
    have hc:=TT hB p3.1 q3.1
    obtain⟨e,v1,v2⟩:=hf.ret q1 h2.head
    obtain⟨n1,a1,d1,b1,rfl⟩:=v2.len
    show∃outs ps' qs' qs2,XJ (outs++(ps'++qs2)) (V3 (t::ts) ((f u.1,u.2)::mapQ f us))/\_
    rw[US]
    rcases WB t.2 u.2 with e|e|e
    ·rw[if_pos e]
     rw[e]at hc
     obtain⟨o,ps',qs',qs2,g1,g2,g2',g3,g4,g5,g6,g7⟩:=ih (by simp;omega) h (.cons hu k) h1.tail h2
     simp only[Zi]at g6 g7
     exact⟨_,_,_,_,.cons ht g1,(g2.and hc.evt).mono fun E K ⟨e1,e2⟩=>.left p3 q3 e2 e1,g2',g3,g4,by omega,by omega,by simp;omega⟩
    ·rw[if_neg (by rw[e];simp),if_pos e]
     rw[e]at hc
     obtain⟨o,ps',qs',qs2,g1,g2,g2',g3,g4,g5,g6,g7⟩:=ih (by simp;omega) (.cons ht h) k h1 h2.tail
     simp only[Zi]at g5 g7
     exact⟨_,_,_,_,.cons (VT.mk v2 q3) g1,(g2.and (hc.evt.and v1.evt)).mono fun E K ⟨e1,e2,e3⟩=>.right p3 q3 e2 e3 e1,g2',g3,g4,by omega,by omega,by simp;omega⟩
    ·rw[if_neg (by rw[e];simp),if_neg (by rw[e];simp)]
     rw[e]at hc
     obtain⟨o,ps',qs',qs2,g1,g2,g2',w3,w4,w5,w6,w7⟩:=ih (by omega) h k h1.tail h2.tail
     obtain⟨r,g3,g4⟩:=ratAdd_q hB p1 v2 h1.head (hf.sq h2.head)
     have g5:=ratSign_q hB g4
     obtain⟨n',a',d',b',rfl⟩:=g4.len
     by_cases h0:t.1+f u.1=0
     ·rw[if_pos h0]
      rw[h0]at g5
      exact⟨_,_,_,_,g1,(g2.and (hc.evt.and (g3.evt.and (g5.evt.and v1.evt)))).mono fun E K ⟨e1,e2,e3,e4,e5⟩=>.zero p3 q3 e2 e5 e3 e4 e1,g2',w3,w4,by omega,by omega,by omega⟩
     ·rw[if_neg h0]
      exact⟨_,_,_,_,.cons (VT.mk g4 p3) g1,(g2.and (hc.evt.and (g3.evt.and (g5.evt.and v1.evt)))).mono fun E K ⟨e1,e2,e3,e4,e5⟩=>.both p3 q3 e2 e5 e3 e4 (sgnF h0) e1,g2',w3,w4,by omega,by omega,by simp;omega⟩
theorem mergeq_ret {B:Base}(hB:Std B){fN:Nat}{f:Rat->Rat}(hfn:FunQ B fN f){lp lq:PL}{ts us:List Qm}(hp:PQ lp ts)(hq:PQ lq us)(h1:Sz ts)(h2:Sz us)(l1:ts.length<400000)(l2:us.length<400000):
  ∃outs,Ret B 92 [.one lp,.one lq,.one (.fn fN [])] (.one (.lst outs))/\XJ outs (V3 ts (mapQ f us)):=by
 obtain⟨ps,sp,hp⟩:=hp
 obtain⟨qs,sq,hq⟩:=hq
 have elp:=hp.length
 have elq:=hq.length
 obtain⟨o,ps',qs',qs2,g1,g2,g2',g3,g4,g5,g6,g7⟩:=mergeQ_evt hB hfn _ (Zg _) hp hq h1 h2
 refine⟨o++(ps'++qs2),Ret.of (hB.tab _ _ rfl) ((g2.and (g2'.and (hB.evt.and (Evt.ge (ps.length+qs.length+1))))).mono fun E K ⟨e1,hid,hmd,hK⟩=> ?_),g1⟩
 obtain⟨T',G',v',lp',lq',k1,⟨k2,k3,k4,k5⟩,k6,k7⟩:=mergeq_go (K:=K) hmd hfn.md hfn.fF hfn.fA ps qs o ps' qs' e1 (fun d hd=>Sa.len (XJ.forms hp d hd)) (fun d hd=>Sa.len (XJ.forms hq d hd)) lp lq K 0 [] [] sp sq (by simp;omega) (by omega)
 simp only[ZL,Zw]at k1 k5
 obtain⟨T2,G2,v2,m1,m2⟩:=mergeq_rest (K:=K) hmd hfn.md hfn.fF hfn.fA k7 (by omega) hid qs'.length 0 K (v'+1) (o++ps') G' (by omega) (by omega) (by simp;omega)
 rw[Yh,Zq]at m1 m2
 have f0:Xd .i64 (.ofNat (ps.length+qs.length))=.ofNat (ps.length+qs.length):=wrap_i64 (by omega)
 have f1:128*(ps.length+qs.length)<=lim:=by unfold lim;omega
 have f2:ps.length+qs.length<=9223372036854775807:=by omega
 have f3:(o.length+ps'.length)*128<=lim:=by unfold lim;omega
 have f4:o.length+ps'.length<=9223372036854775807:=by omega
 have f5:(ps'.map (·.map DL.p)).all (fun c=>decide (c.length=12))=true:=by
  rw[ZP]
  intro c hc
  simp only[ZM]at hc
  obtain⟨d,hd,rfl⟩:=hc
  simp[Sa.len (g3 d hd)]
 have f6:(ps'.map (·.map DL.p)).length=ps'.length:=by simp
 have ht:=V5 (o++(ps'++qs2)) (Zg _)
 have hf:=fun h=>Uv 5 h (o++(ps'++qs2))
 have m1':=m1
 rw[Zm]at m1'
 have k1':=k1
 simp only[pc,ZZ]at k1'
 simp only[EVS,EVN,reduceIte,Nat.reduceEqDiff,Nat.reduceLeDiff,Nat.reduceAdd,Zr,x92,sp.len,sq.len,f0,f1,f2]
 have hcp:=fun h=>k6.chunks (h:=h)
 have hpl:(List.map (fun x=>List.map DL.p x) o).length=o.length:=by simp
 have hpa:=pc_app o ps'
 simp only[pc]at hpa
 simp only[EVS,EVN,reduceIte,Nat.reduceEqDiff,Nat.reduceLeDiff,k1',k2,k3,k4,k5,hcp,f3,f4,f5,f6,hpl,hpa,k7.len]
 simp only[pc]at m1' ht hf
 rw[m1']
 simp only[EVS,EVN,reduceIte,Nat.reduceEqDiff,beq_self_eq_true,m2,ht,hf,ZU,Zg]
theorem funNeg {B:Base}(hB:Std B):FunQ B 138 (fun x=> -x) where
 md:=rfl
 fF:=rfl
 fA:=fun vs=>by show(bif Nat.blt _ bnd then vs++[]else _)=vs;rw[ZO];rfl
 ret:=fun hc hy=>ratNeg_q hB hc hy
 sq:=fun h=>h.neg
theorem mapQ_neg (ts:List Qm):mapQ (fun x=> -x) ts=negQ ts:=by
 simp[mapQ,negQ,Wp,Rat.neg_mul,Rat.one_mul]
theorem psubq_ret {B:Base}(hB:Std B){lp lq:PL}{ts us:List Qm}(hp:PQ lp ts)(hq:PQ lq us)(h1:Sz ts)(h2:Sz us)(l1:ts.length<400000)(l2:us.length<400000):
  ∃outs,Ret B 102 [.one lp,.one lq] (.one (.lst outs))/\XJ outs (V3 ts (negQ us)):=by
 obtain⟨outs,g1,g2⟩:=mergeq_ret hB (funNeg hB) hp hq h1 h2 l1 l2
 rw[mapQ_neg]at g2
 refine⟨_,Ret.of (hB.tab _ _ rfl) ((g1.evt.and hB.evt).mono fun E K ⟨e1,hmd⟩=> ?_),g2⟩
 simp only[EVS,EVN,reduceIte,Nat.reduceEqDiff,Nat.reduceLeDiff,Nat.reduceAdd,x102,hmd,MDS,e1]
theorem allPure_map (c:List PL):T9 (c.map DL.p)=true:=by
 induction c with
 |nil=>rfl
 |cons a c ih=>exact ih
theorem Xx (m:List Nat):T9 (moD m)=true:=by rw[<-XT];exact allPure_map _
theorem Vn {α:Type}(G l:List α)(n:Nat):(G++l)[G.length+n]? =l[n]? :=by
 rw[ZB (Nat.le_add_right _ _),Yx]
theorem T7 {α:Type}(G l:List α)(n:Nat)(x:α):(G++l).set (G.length+n) x=G++l.set n x:=by
 rw[List.set_append_right _ _ (Nat.le_add_right _ _),Yx]
inductive PTimesR (E:Oracle)(c:List PL)(m:List Nat):List (List PL)->List (List PL)->Prop
 |nil:PTimesR E c m [] []
 |cons {x y z u r1 r2 r3 r4:PL} {k:List Nat} {es os:List (List PL)} (hk:XF k) (hs:XF (Xh m k)) (h1:E.pure 59 [.agg (mo m),.agg (mo k)]=some (.tup [.agg (mo (Xh m k)),.one (.int .i64 (.ofNat 0))]))
   (h2:E.pure 90 [.agg c,.agg [x,y,z,u]]=some (.agg [r1,r2,r3,r4])) (h:PTimesR E c m es os):PTimesR E c m ((x::y::z::u::mo k)::es) ((r1::r2::r3::r4::mo (Xh m k))::os)
theorem ptimes_evt {B:Base}(hB:Std B){c:List PL}{z:Rat}(hc:IsQ c z)(hz:Sq z){m:List Nat}(hm:XF m):∀{es:List (List PL)} {ts:List Qm},XJ es ts->Sz ts->(∀t∈ts,XF (Xh m t.2))->
  ∃outs,XJ outs (Wo z m ts)/\Evt B fun E _=>PTimesR E c m es outs
 |_,_,.nil,_,_=>⟨[],.nil,Evt.of fun _ _=>.nil⟩
 |_,_,.cons (x:=d) (y:=t) ht h,hs,ho=>by
  obtain⟨outs,g1,g2⟩:=ptimes_evt hB hc hz hm h hs.tail (fun t ht=>ho t (Zc _ ht))
  have hok:=ho t (Zh ..)
  obtain⟨n,a,d,b,rfl,q,hk⟩:=ht
  obtain⟨e,g3,g4⟩:=ratMul_q hB hc q hz hs.head
  have g5:=monoMul_ret hB hm hk hok
  obtain⟨n',a',d',b',rfl⟩:=g4.len
  exact⟨_,.cons (VT.mk g4 hok) g1,(g2.and (g3.evt.and g5.evt)).mono fun E K ⟨e1,e2,e3⟩=>.cons hk hok e3 e2 e1⟩
abbrev rtB (c1 c2 c3 c4:PL):Blk:=⟨false,0,4,[[.p c1,.p c2,.p c3,.p c4]],false,61⟩
abbrev mnB (m:List Nat):Blk:=⟨false,0,8,[moD m],false,51⟩
abbrev trB (v:Nat)(o:List (List PL)):Blk:=⟨false,v,12,pc o,false,63⟩
theorem ptimes_round {E:Oracle}{K k v i:Nat}{c1 c2 c3 c4 lp x y z u r1 r2 r3 r4:PL}{m kk:List Nat}{all o:List (List PL)}(hmd:E.mode=md)(sl:Sl lp all)(hl:all.length<1000000)(ho:o.length<1000000)(hm:XF m)(hk:XF kk)(hi:all[i]? =some (x::y::z::u::mo kk))(hs:XF (Xh m kk))
  (h1:E.pure 59 [.agg (mo m),.agg (mo kk)]=some (.tup [.agg (mo (Xh m kk)),.one (.int .i64 (.ofNat 0))])) (h2:E.pure 90 [.agg [c1,c2,c3,c4],.agg [x,y,z,u]]=some (.agg [r1,r2,r3,r4])) (G:List Blk):
  ∃G',Xa E K 0 [3,4,8,19,20,21] x137_1 (k+1) ⟨[(3,.one (.ptr 0 0 0 0)),(4,.one (.ptr 1 0 0 0)),(8,.one (.own 2 v 0 o.length)),(19,.one (.p lp)),(20,.one (.p (.int .i64 (.ofNat all.length)))),(21,.one (.p (.int .i64 (.ofNat i))))],rtB c1 c2 c3 c4::mnB m::trB v o::G⟩=
   Xa E K 0 [3,4,8,19,20,21] x137_1 k ⟨[(3,.one (.ptr 0 0 0 0)),(4,.one (.ptr 1 0 0 0)),(8,.one (.own 2 (v+1) 0 (o++[r1::r2::r3::r4::mo (Xh m kk)]).length)),(19,.one (.p lp)),(20,.one (.p (.int .i64 (.ofNat all.length)))),(21,.one (.p (.int .i64 (.ofNat (i+1)))))],rtB c1 c2 c3 c4::mnB m::trB (v+1) (o++[r1::r2::r3::r4::mo (Xh m kk)])::G'⟩:=by
 have hlt:i<all.length:=(Zb.mp hi).1
 have m8:=hm.1
 have k8:=hk.1
 have a8:=hs.1
 have tm:(moD m).take 8=moD m:=Ze (by rw[Xb];omega)
 have dm:(moD m).drop 8=[]:=Zp (by rw[Xb];omega)
 have tk:(moD kk).take 8=moD kk:=Ze (by rw[Xb];omega)
 have dk:(moD kk).drop 8=[]:=Zp (by rw[Xb];omega)
 have ta:(moD (Xh m kk)).take 8=moD (Xh m kk):=Ze (by rw[Xb];omega)
 have da:(moD (Xh m kk)).drop 8=[]:=Zp (by rw[Xb];omega)
 have ip:=fun(hh:HF) (kd:IntKind)=>sl.idx (h:=hh) (k:=kd) (sz:=12) hi (by simp[Xt,k8])
 have f1:Xd .i64 (.ofNat (i+1))=.ofNat (i+1):=wrap_i64 (by omega)
 have f2:(o.length+1)*128<=lim:=by unfold lim;omega
 have f3:o.length+1<=9223372036854775807:=by omega
 have w1:=Xx m
 have w2:=Xx kk
 have w3:=Xx (Xh m kk)
 apply Exists.intro
 rw[Xa]
 simp(decide:=true)only[EVS,EVN,EVF,EVH,reduceIte,Nat.reduceEqDiff,Nat.reduceLeDiff,Nat.reduceAdd,x137_1,hlt,ip,XT,Xb,m8,k8,a8,tm,tk,ta,XN,XP,hmd,MDS,Vn,T7,Zq,Zm,h1,h2,f1,f2,f3,w3,XR,WK]
 rfl
theorem ptimes_go {E:Oracle}{K:Nat}{c1 c2 c3 c4 lp:PL}{m:List Nat}{all:List (List PL)}(hmd:E.mode=md)(sl:Sl lp all)(hl:all.length<1000000)(hm:XF m):∀{rest outs:List (List PL)},PTimesR E [c1,c2,c3,c4] m rest outs->∀(i k v:Nat) (o:List (List PL)) (G:List Blk),all.drop i=rest->i+rest.length=all.length->o.length=i->rest.length<k->
  ∃T' G' v',Xa E K 0 [3,4,8,19,20,21] x137_1 k ⟨[(3,.one (.ptr 0 0 0 0)),(4,.one (.ptr 1 0 0 0)),(8,.one (.own 2 v 0 o.length)),(19,.one (.p lp)),(20,.one (.p (.int .i64 (.ofNat all.length)))),(21,.one (.p (.int .i64 (.ofNat i))))],rtB c1 c2 c3 c4::mnB m::trB v o::G⟩=
   some (.exit 0,⟨T',rtB c1 c2 c3 c4::mnB m::trB v' (o++outs)::G'⟩)/\Xf T' 8=some (.one (.own 2 v' 0 (o++outs).length)):=by
 intro rest outs h
 induction h with
 |nil=>
  intro i k v o G hd hi ho hk
  obtain⟨k,rfl⟩:∃k',k=k'+1:=⟨k-1,by omega⟩
  have hlt:¬i<all.length:=by simp at hi;omega
  have :∃T',Xa E K 0 [3,4,8,19,20,21] x137_1 (k+1) ⟨[(3,.one (.ptr 0 0 0 0)),(4,.one (.ptr 1 0 0 0)),(8,.one (.own 2 v 0 o.length)),(19,.one (.p lp)),(20,.one (.p (.int .i64 (.ofNat all.length)))),(21,.one (.p (.int .i64 (.ofNat i))))],rtB c1 c2 c3 c4::mnB m::trB v o::G⟩=
   some (.exit 0,⟨T',rtB c1 c2 c3 c4::mnB m::trB v o::G⟩)/\Xf T' 8=some (.one (.own 2 v 0 o.length)):=by
   apply ex1
   ·rw[Xa]
    simp only[EVS,EVN,reduceIte,Nat.reduceEqDiff,x137_1,hlt]
    rfl
   ·simp only[EVS,reduceIte,Nat.reduceEqDiff]
  obtain⟨T',g1,g2⟩:=this
  exact⟨T',G,v,by rw[ZO];exact g1,by rw[ZO];exact g2⟩
 |@cons x y z u r1 r2 r3 r4 kk es os hk hs h1 h2 h ih=>
  intro i k v o G hd hi ho hkk
  obtain⟨k,rfl⟩:∃k',k=k'+1:=⟨k-1,by omega⟩
  simp only[Zi]at hi hkk
  obtain⟨gp,dp⟩:=Xq hd
  obtain⟨G1,g1⟩:=ptimes_round (K:=K) (k:=k) (v:=v) (c1:=c1) (c2:=c2) (c3:=c3) (c4:=c4) (o:=o) hmd sl hl (by omega) hm hk gp hs h1 h2 G
  obtain⟨T',G',v',g2,g3⟩:=ih (i+1) k (v+1) (o++[r1::r2::r3::r4::mo (Xh m kk)]) G1 dp (by omega) (by simp;omega) (by omega)
  rw[Zq,ZX]at g2 g3
  exact⟨T',G',v',g1.trans g2,g3⟩
theorem ptimesq_ret {B:Base}(hB:Std B){c:List PL}{z:Rat}(hc:IsQ c z)(hz:Sq z)(h0:z≠0){m:List Nat}(hm:XF m){lp:PL}{ts:List Qm}(hp:PQ lp ts)(hs:Sz ts)(ho:∀t∈ts,XF (Xh m t.2))(hl:ts.length<1000000):
  ∃outs,Ret B 137 [.agg c,.agg (mo m),.one lp] (.tup [.one (.lst outs),.one (.int .i64 (.ofNat 0))])/\XJ outs (Wo z m ts):=by
 obtain⟨es,sl,hp⟩:=hp
 have el:=hp.length
 obtain⟨outs,g1,g2⟩:=ptimes_evt hB hc hz hm hp hs ho
 have hsg:=ratSign_q hB hc
 have s0:=sgnF h0
 obtain⟨n,a,d,b,rfl⟩:=hc.len
 refine⟨outs,Ret.of (hB.tab _ _ rfl) ((g2.and (hsg.evt.and (hB.evt.and (Evt.ge (es.length+1))))).mono fun E K ⟨e1,e2,hmd,hK⟩=> ?_),g1⟩
 obtain⟨T',G',v',k1,k2⟩:=ptimes_go (K:=K) hmd sl (by omega) hm e1 0 K 0 [] [] rfl (by omega) rfl (by omega)
 rw[ZL]at k1 k2
 have m8:=hm.1
 have tm:(moD m).take 8=moD m:=Ze (by rw[Xb];omega)
 have f1:128*es.length<=lim:=by unfold lim;omega
 have f2:es.length<=9223372036854775807:=by omega
 have ht:=V5 outs (Zg _)
 have hf:=fun h=>Uv 5 h outs
 simp only[Zw,rtB,mnB,trB,pc,ZZ]at k1 k2 ht hf
 simp only[EVS,EVN,reduceIte,Nat.reduceEqDiff,Nat.reduceLeDiff,Nat.reduceAdd,Zr,x137,sl.len,hmd,MDS,e2,s0,XT,Xb,m8,f1,f2,k1,k2,ht,hf,ZU,Zg]
end Go.Proofs.YtefpgecinlekpaaGreat
