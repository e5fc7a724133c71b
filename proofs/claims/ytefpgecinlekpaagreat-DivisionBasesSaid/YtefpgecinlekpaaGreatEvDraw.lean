/- Regions that draw their order, first part: an operation looks only at what it says; the run in the order of the text. -/
import Derived.Test.YtefpgecinlekpaaGreatEvFun
namespace Go.Ev
open Go.RowKit
theorem freezeL_local {h h':HF}:∀(k:Nat) (l:DL) (pl:PL),Xn k h l=some pl->(∀id∈Wt k h l,h' id=h id)->Xn k h' l=some pl/\Wt k h' l=Wt k h l:=by
 have listL:∀(k:Nat),(∀(l:DL) (pl:PL),Xn k h l=some pl->(∀id∈Wt k h l,h' id=h id)->Xn k h' l=some pl/\Wt k h' l=Wt k h l)->
   ∀(ls:List DL) (pls:List PL),Xl (Xn k h) ls=some pls->(∀id∈ls.flatMap (Wt k h),h' id=h id)->Xl (Xn k h') ls=some pls/\ls.flatMap (Wt k h')=ls.flatMap (Wt k h):=by
  intro k ih ls
  induction ls with
  |nil=>intro pls hm _;exact⟨by rw[map0 hm];rfl,rfl⟩
  |cons l ls ihl=>
   intro pls hm hids
   obtain⟨p,ps,hp,hps,rfl⟩:=map_cons hm
   simp only[Yv,Z3]at hids
   obtain⟨h1,h2⟩:=ih l p hp fun id hid=>hids id (.inl hid)
   obtain⟨h3,h4⟩:=ihl ps hps fun id hid=>hids id (.inr hid)
   exact⟨by simp[Xl,h1,h3],by simp[Yv,h2,h4]⟩
 intro k
 induction k with
 |zero=>
  intro l pl hf _
  cases l with
  |p l=>simp only[Xn]at hf⊢;exact⟨hf,by simp[Wt]⟩
  |own=>simp[Xn]at hf
  |ptr=>simp[Xn]at hf
  |fn=>simp[Xn]at hf
  |mp=>simp[Xn]at hf
 |succ k ih=>
  intro l pl hf hids
  cases l with
  |p l=>simp only[Xn]at hf⊢;exact⟨hf,by simp[Wt]⟩
  |mp _=>simp[Xn]at hf
  |fn f caps=>
   simp only[Xn]at hf
   cases hm:Xl (Xn k h) caps with
   |none=>simp[hm]at hf
   |some cs=>
   simp only[hm,Za]at hf;subst hf
   simp only[Wt]at hids
   obtain⟨h1,h2⟩:=listL k ih caps cs hm hids
   exact⟨by simp[Xn,h1],by simp only[Wt];exact h2⟩
  |own id ver off len=>
   simp only[Xn]at hf
   cases hb:h id with
   |none=>simp[hb]at hf
   |some b=>
   simp only[hb]at hf
   simp only[Wt,hb,Zk]at hids
   have hb':h' id=some b:=by rw[hids id (.inl rfl)];exact hb
   obtain⟨hcond,hf2⟩:=XA hf
   cases hm:Xl (Xl (Xn k h)) ((b.ch.drop off).take len)with
   |none=>simp[hm]at hf2
   |some es=>
   simp only[hm,Za]at hf2;subst hf2
   have gen:∀(ch:List (List DL)) (es:List (List PL)),Xl (Xl (Xn k h)) ch=some es->(∀id∈ch.flatMap (fun c=>c.flatMap (Wt k h)),h' id=h id)->
     Xl (Xl (Xn k h')) ch=some es/\(ch.flatMap fun c=>c.flatMap (Wt k h'))=ch.flatMap fun c=>c.flatMap (Wt k h):=by
    intro ch
    induction ch with
    |nil=>intro es hm _;exact⟨by rw[map0 hm];rfl,rfl⟩
    |cons c ch ihc=>
     intro es hm hi
     obtain⟨e,es',he,hes,rfl⟩:=map_cons hm
     simp only[Yv,Z3]at hi
     obtain⟨h1,h2⟩:=listL k ih c e he fun id hid=>hi id (.inl hid)
     obtain⟨h3,h4⟩:=ihc es' hes fun id hid=>hi id (.inr hid)
     exact⟨by simp[Xl,h1,h3],by simp[Yv,h2,h4]⟩
   obtain⟨h1,h2⟩:=gen _ _ hm fun id hid=>hids id (.inr hid)
   refine⟨by simp only[Xn,hb',hcond,cond_true,h1],?_⟩
   simp only[Wt,hb',hb,h2]
  |ptr id ver i off=>
   simp only[Xn]at hf
   cases hb:h id with
   |none=>simp[hb]at hf
   |some b=>
   simp only[hb]at hf
   obtain⟨hcond,hf2⟩:=XA hf
   cases hc:b.ch[i]? with
   |none=>simp[hc]at hf2
   |some c=>
   simp only[hc]at hf2
   simp only[Wt,hb,hc,Zk]at hids
   have hb':h' id=some b:=by rw[hids id (.inl rfl)];exact hb
   cases hm:Xl (Xn k h) (c.drop off)with
   |none=>simp[hm]at hf2
   |some cs=>
   simp only[hm,Za]at hf2;subst hf2
   obtain⟨h1,h2⟩:=listL k ih _ _ hm fun id hid=>hids id (.inr hid)
   refine⟨by simp only[Xn,hb',hcond,cond_true,hc,h1],?_⟩
   simp only[Wt,hb',hb,hc,h2]
theorem freezeV1_local {h h':HF}(d:DV)(p:PV)(hf:Xw h d=some p)(hids:∀id∈UC h d,h' id=h id):Xw h' d=some p/\UC h' d=UC h d:=by
 cases d with
 |tup _=>simp[Xw]at hf
 |one l=>
  simp only[Xw]at hf
  cases hl:Xn XM h l with
  |none=>simp[hl]at hf
  |some pl=>
  simp only[hl,Za]at hf;subst hf
  obtain⟨h1,h2⟩:=freezeL_local _ l pl hl hids
  exact⟨by simp[Xw,h1],h2⟩
 |agg cs=>
  simp only[Xw]at hf
  cases hl:Xl (Xn XM h) cs with
  |none=>simp[hl]at hf
  |some pls=>
  simp only[hl,Za]at hf;subst hf
  have gen:∀(ls:List DL) (pls:List PL),Xl (Xn XM h) ls=some pls->(∀id∈ls.flatMap (Wt XM h),h' id=h id)->Xl (Xn XM h') ls=some pls/\ls.flatMap (Wt XM h')=ls.flatMap (Wt XM h):=by
   intro ls
   induction ls with
   |nil=>intro pls hm _;exact⟨by rw[map0 hm];rfl,rfl⟩
   |cons l ls ihl=>
    intro pls hm hids
    obtain⟨p,ps,hp,hps,rfl⟩:=map_cons hm
    simp only[Yv,Z3]at hids
    obtain⟨h1,h2⟩:=freezeL_local _ l p hp fun id hid=>hids id (.inl hid)
    obtain⟨h3,h4⟩:=ihl ps hps fun id hid=>hids id (.inr hid)
    exact⟨by simp[Xl,h1,h3],by simp[Yv,h2,h4]⟩
  obtain⟨h1,h2⟩:=gen cs pls hl hids
  exact⟨by simp[Xw,h1],h2⟩
theorem chunksOf_local {h h':HF}(l:DL)(new:List (List DL))(ids:List Nat)(hc:XX h l=some (new,ids))(hids:∀id∈ids,h' id=h id):XX h' l=some (new,ids):=by
 unfold XX at hc⊢
 split at hc
 ·exact hc
 ·exact hc
 ·rename_i id ver off len
  cases hb:h id with
  |none=>simp[hb]at hc
  |some b=>
  simp only[hb]at hc
  obtain⟨hcond,heq⟩:=Xk hc
  simp only[Zl]at heq;obtain⟨rfl,rfl⟩:=heq
  rw[hids id (by simp),hb]
  simp only[hcond,cond_true]
 ·simp at hc
theorem filterMap_eq {α β:Type}{f g:α->Option β}:∀(l:List α),(∀x∈l,f x=g x)->l.filterMap f=l.filterMap g
 |[],_=>rfl
 |x::xs,h=>by
  rw[List.filterMap_cons,List.filterMap_cons,h x (by simp),filterMap_eq xs fun y hy=>h y (by simp[hy])]
theorem Rc (E:Oracle){h h':HF}(f:Nat)(vs:List DV)(r:Res)(hr:Wc E h f vs=some r)(hids:∀id∈r.rd,h' id=h id):Wc E h' f vs=some r:=by
 unfold Wc at hr⊢
 split at hr
 ·cases hp:Xl (Xw h) vs with
  |none=>simp[hp]at hr
  |some ps=>
  simp only[hp]at hr
  cases he:E.pure f ps with
  |none=>simp[he]at hr
  |some pr=>
  simp only[he]at hr
  have hrd:r.rd=vs.flatMap (UC h):=by
   simp only[Yp]at hr
   split at hr<;>simp only[Za]at hr<;>subst hr<;>rfl
  rw[hrd]at hids
  have gen:∀(ls:List DV) (ps:List PV),Xl (Xw h) ls=some ps->(∀id∈ls.flatMap (UC h),h' id=h id)->Xl (Xw h') ls=some ps/\ls.flatMap (UC h')=ls.flatMap (UC h):=by
   intro ls
   induction ls with
   |nil=>intro pls hm _;exact⟨by rw[map0 hm];rfl,rfl⟩
   |cons l ls ihl=>
    intro pls hm hids
    obtain⟨p,ps,hp,hps,rfl⟩:=map_cons hm
    simp only[Yv,Z3]at hids
    obtain⟨h1,h2⟩:=freezeV1_local l p hp fun id hid=>hids id (.inl hid)
    obtain⟨h3,h4⟩:=ihl ps hps fun id hid=>hids id (.inr hid)
    exact⟨by simp[Xl,h1,h3],by simp[Yv,h2,h4]⟩
  obtain⟨h1,h2⟩:=gen vs ps hp hids
  have h3:(vs.flatMap (UC h)).filterMap (fun id=>(h' id).map fun b=>(id,{b with fz:=true}))=(vs.flatMap (UC h)).filterMap (fun id=>(h id).map fun b=>(id,{b with fz:=true})):=by
   refine filterMap_eq _ fun id hid=> ?_
   rw[hids id hid]
  simp only[h1,he,h2,h3]
  exact hr
 ·simp at hr
theorem evOp_local (E:Oracle)(base:Nat)(op:XOp)(vs:List DV){h h':HF}(n:Nat)(r:Res)(hr:XG E base op vs h n=some r)(hids:∀id∈r.rd,h' id=h id):XG E base op vs h' n=some r:=by
 cases op with
 |call f=>exact Rc E f vs r hr hids
 |callV=>
  simp only[XG,V6]at hr⊢
  split at hr
  ·exact Rc E _ _ r hr hids
  ·exact Rc E _ _ r hr hids
  ·simp at hr
 |load agg sz=>
  simp only[XG,S3]at hr⊢
  split at hr
  ·exact hr
  ·rename_i id ver i off
   cases hc:UZ h id ver i with
   |none=>simp[hc]at hr
   |some c=>
   simp only[hc]at hr
   have hid:h' id=h id:=by
    obtain⟨_,hr⟩:=XA hr
    split at hr<;>simp only[Za,reduceCtorEq]at hr
    subst hr;exact hids id (by simp)
   have hc':UZ h' id ver i=some c:=by unfold UZ at hc⊢;rw[hid];exact hc
   simp only[hc'];exact hr
  ·simp at hr
 |store sz=>
  simp only[XG,TO]at hr⊢
  split at hr
  ·rename_i id ver i off x
   cases hb:h id with
   |none=>simp[hb]at hr
   |some b=>
   simp only[hb]at hr
   have hid:h' id=h id:=by
    split at hr
    ·simp only[SQ]at hr
     obtain⟨_,hr⟩:=XA hr
     split at hr
     ·obtain⟨_,rfl⟩:=Xk hr;exact hids id (by simp)
     ·simp at hr
    ·simp at hr
   simp only[hid,hb];exact hr
  ·simp at hr
 |indexS sz=>
  simp only[XG,WH]at hr⊢
  split at hr
  ·exact hr
  ·rename_i id ver off len k i
   cases hb:h id with
   |none=>simp[hb]at hr
   |some b=>
   simp only[hb]at hr
   have hid:h' id=h id:=by
    obtain⟨_,rfl⟩:=Xk hr;exact hids id (by simp)
   simp only[hid,hb];exact hr
  ·simp at hr
 |slice sz lo hi=>
  simp only[XG,TP]at hr⊢
  cases hs:WT lo hi vs with
  |none=>simp[hs]at hr
  |some q=>
  obtain⟨x,l,u⟩:=q
  simp only[hs]at hr⊢
  cases hsi:X6 sz h x l u with
  |none=>simp[hsi]at hr
  |some q2=>
  obtain⟨d,rd⟩:=q2
  simp only[hsi,Za]at hr;subst hr
  have :X6 sz h' x l u=some (d,rd):=by
   unfold X6 at hsi⊢
   split at hsi
   ·exact hsi
   ·exact hsi
   ·rename_i id ver off len
    cases hb:h id with
    |none=>simp[hb]at hsi
    |some b=>
    simp only[hb]at hsi
    obtain⟨hcond,heq⟩:=Xk hsi
    simp only[Zl]at heq;obtain⟨rfl,rfl⟩:=heq
    rw[hids id (by simp),hb];simp only[hcond,cond_true]
   ·simp at hsi
  simp only[this]
 |append e sz bytes=>
  simp only[XG,Wk]at hr⊢
  split at hr
  ·rename_i x y
   cases hc:XX h y with
   |none=>simp[hc]at hr
   |some q=>
   obtain⟨new,ids⟩:=q
   simp only[hc]at hr
   obtain⟨hall,hr2⟩:=XA hr
   have hsub:∀id∈ids,id∈r.rd:=by
    split at hr2
    ·simp only[X8]at hr2
     obtain⟨_,hr2⟩:=XA hr2
     split at hr2<;>simp only[Za]at hr2<;>subst hr2<;>exact fun id h=>h
    ·split at hr2
     ·rw[Yp]at hr2
      split at hr2
      ·simp only[VX]at hr2
       obtain⟨_,rfl⟩:=Xk hr2
       intro id h;simp[h]
      ·simp only[Tg]at hr2
       obtain⟨_,rfl⟩:=Xk hr2
       intro id h;simp[h]
     ·simp at hr2
    ·simp at hr2
   have hc':=chunksOf_local y new ids hc fun id hid=>hids id (hsub id hid)
   simp only[hc',hall,cond_true]
   split at hr2
   ·exact hr2
   ·rename_i id ver len
    cases hb:h id with
    |none=>simp[hb]at hr2
    |some b=>
    simp only[hb]at hr2
    have hid:h' id=h id:=by
     have hr3:=hr2
     rw[Yp]at hr3
     split at hr3
     ·simp only[VX]at hr3
      obtain⟨_,rfl⟩:=Xk hr3
      exact hids id (by simp)
     ·simp only[Tg]at hr3
      obtain⟨_,rfl⟩:=Xk hr3
      exact hids id (by simp)
    simp only[hid,hb];exact hr2
   ·simp at hr2
  ·simp at hr
 |clear z=>
  simp only[XG,TR]at hr⊢
  split at hr
  ·rename_i id ver off len
   cases hb:h id with
   |none=>simp[hb]at hr
   |some b=>
   simp only[hb]at hr
   have hid:h' id=h id:=by
    obtain⟨_,rfl⟩:=Xk hr;exact hids id (by simp)
   simp only[hid,hb];exact hr
  ·simp at hr
 |copy sz=>
  simp only[XG,S5]at hr⊢
  split at hr
  ·rename_i id ver off len y
   cases hb:h id with
   |none=>simp[hb]at hr
   |some b=>
   simp only[hb]at hr
   cases hc:XX h y with
   |none=>simp[hc]at hr
   |some q=>
   obtain⟨new,ids⟩:=q
   simp only[hc]at hr
   have hrd:r.rd=id::ids:=by
    simp only[copyIn]at hr
    obtain⟨_,rfl⟩:=Xk hr;rfl
   have hid:h' id=h id:=hids id (by rw[hrd];simp)
   have hc':=chunksOf_local y new ids hc fun q hq=>hids q (by rw[hrd];simp[hq])
   simp only[hid,hb,hc'];exact hr
  ·simp at hr
 |lookup klen k agg z ok=>
  simp only[XG,TE]at hr⊢
  split at hr
  ·rename_i id kc
   cases hb:h id with
   |none=>simp[hb]at hr
   |some b=>
   simp only[hb]at hr
   have hid:h' id=h id:=by
    refine hids id ?_
    simp only[lookIn,Yp]at hr
    (repeat' split at hr)<;>simp only[Za,reduceCtorEq]at hr<;>subst hr<;>simp
   simp only[hid,hb];exact hr
  ·simp at hr
 |mapUpdate klen k agg vsz=>
  simp only[XG,VL]at hr⊢
  split at hr
  ·rename_i id kc x
   cases hb:h id with
   |none=>simp[hb]at hr
   |some b=>
   simp only[hb]at hr
   have hid:h' id=h id:=by
    refine hids id ?_
    split at hr
    ·obtain⟨_,hr⟩:=XA hr
     unfold updIn at hr
     split at hr<;>simp only[Za,reduceCtorEq]at hr<;>subst hr<;>simp
    ·simp at hr
   simp only[hid,hb];exact hr
  ·simp at hr
 |lenMap=>
  simp only[XG,U6]at hr⊢
  split at hr
  ·rename_i id
   cases hb:h id with
   |none=>simp[hb]at hr
   |some b=>
   simp only[hb]at hr
   have hid:h' id=h id:=by
    obtain⟨_,rfl⟩:=Xk hr;exact hids id (by simp)
   simp only[hid,hb];exact hr
  ·simp at hr
 |_=>exact hr
structure Run (E:Oracle)(base:Nat)(xs:List XOper)(S:Nat->St)(F:Nat->Foot):Prop where
 step:∀i xo,xs[i]? =some xo->Wi E base (Xe E xo.op) xo (S i)=some (S (i+1),(F i).rd,(F i).wr)
 foot:∀i xo,xs[i]? =some xo->(F i).i=i/\(F i).after=xo.after/\(F i).lo=(S i).H.length/\(F i).hi=(S (i+1)).H.length
 heap:∀i xo,xs[i]? =some xo->Xe E xo.op=true->i+1=xs.length/\∀k,k<i->k∈xo.after
theorem Rg (l:List Nat):∀(i:Nat),Th l i=true->∀k,k<i->k∈l
 |0,_,k,hk=>by omega
 |i+1,h,k,hk=>by
  simp only[Th,Zo]at h
  by_cases e:k=i
  ·subst e;simpa using h.1
  ·exact Rg l i h.2 k (by omega)
theorem run_of (E:Oracle)(base:Nat):∀(xs:List XOper) (i:Nat) (s s':St) (fs:List Foot),Vy E base i xs s=some (s',fs)->
  ∃(S:Nat->St) (F:Nat->Foot),S 0=s/\S xs.length=s'/\fs=(List.range xs.length).map F/\
   (∀k xo,xs[k]? =some xo->Wi E base (Xe E xo.op) xo (S k)=some (S (k+1),(F k).rd,(F k).wr))/\
   (∀k xo,xs[k]? =some xo->(F k).i=i+k/\(F k).after=xo.after/\(F k).lo=(S k).H.length/\(F k).hi=(S (k+1)).H.length)/\
   (∀k xo,xs[k]? =some xo->Xe E xo.op=true->k+1=xs.length/\∀q,q<i+k->q∈xo.after)
 |[],i,s,s',fs,h=>by
  simp only[Vy,Za,Zl]at h
  obtain⟨rfl,rfl⟩:=h
  exact⟨fun _=>s,fun _=>⟨0,[],[],[],0,0⟩,rfl,rfl,rfl,fun k xo hk=>by simp at hk,fun k xo hk=>by simp at hk,fun k xo hk=>by simp at hk⟩
 |o::os,i,s,s',fs,h=>by
  simp only[Vy]at h
  cases hb:(Xe E o.op&& !(os.isEmpty&&Th o.after i))with
  |true=>rw[hb]at h;simp at h
  |false=>
  rw[hb,cond_false]at h
  cases he:Wi E base (Xe E o.op) o s with
  |none=>simp[he]at h
  |some q=>
  obtain⟨s1,rd,wr⟩:=q
  simp only[he]at h
  cases hr:Vy E base (i+1) os s1 with
  |none=>simp[hr]at h
  |some q2=>
  obtain⟨s2,fs2⟩:=q2
  simp only[hr,Za,Zl]at h
  obtain⟨rfl,rfl⟩:=h
  obtain⟨S,F,h0,hn,hfs,hst,hft,hhp⟩:=run_of E base os (i+1) s1 s2 fs2 hr
  refine⟨fun k=>match k with |0=>s|k+1=>S k,fun k=>match k with |0=>⟨i,rd,wr,o.after,s.H.length,s1.H.length⟩|k+1=>F k,rfl,hn,?_,?_,?_,?_⟩
  ·rw[Zi,List.range_succ_eq_map,Zx,List.map_map,hfs];rfl
  ·intro k xo hk
   cases k with
   |zero=>simp at hk;subst hk;show Wi E base (Xe E o.op) o s=some (S 0,rd,wr);rw[h0];exact he
   |succ k=>exact hst k xo (by simpa using hk)
  ·intro k xo hk
   cases k with
   |zero=>simp at hk;subst hk;exact⟨rfl,rfl,rfl,by show s1.H.length=(S 0).H.length;rw[h0]⟩
   |succ k=>
    obtain⟨g1,g2,g3,g4⟩:=hft k xo (by simpa using hk)
    exact⟨by rw[g1];omega,g2,g3,g4⟩
  ·intro k xo hk hh
   cases k with
   |zero=>
    simp at hk;subst hk
    rw[hh]at hb
    simp only[Bool.true_and,Bool.not_eq_false',Zo]at hb
    have hnil:os=[]:=by simpa using hb.1
    exact⟨by simp[hnil],fun q hq=>Rg _ _ hb.2 q (by omega)⟩
   |succ k=>
    obtain⟨g1,g2⟩:=hhp k xo (by simpa using hk) hh
    exact⟨by simp;omega,fun q hq=>g2 q (by omega)⟩
theorem run_of0 (E:Oracle)(base:Nat)(xs:List XOper)(s s':St)(h:Vz E base xs s=some s'):
  ∃S F,Run E base xs S F/\S 0=s/\S xs.length=s'/\∀i j,i<xs.length->j<xs.length->i≠j->footOk (F i) (F j)=true\/((F i).wr=[]/\(F i).lo=(F i).hi):=by
 unfold Vz at h
 cases hd:Vy E base 0 xs s with
 |none=>simp[hd]at h
 |some q=>
 obtain⟨s1,fs⟩:=q
 simp only[hd]at h
 obtain⟨hf,rfl⟩:=Xk h
 obtain⟨S,F,h0,hn,hfs,hst,hft,hhp⟩:=run_of E base xs 0 s s1 fs hd
 refine⟨S,F,⟨hst,fun i xo hi=>by obtain⟨g1,g2⟩:=hft i xo hi;exact⟨by omega,g2⟩,fun i xo hi hh=>by obtain⟨g1,g2⟩:=hhp i xo hi hh;exact⟨g1,fun k hk=>g2 k (by omega)⟩⟩,h0,hn,fun i j hi hj _=> ?_⟩
 unfold Tr at hf
 rw[ZP]at hf
 have hmem:∀k,k<xs.length->F k∈fs:=fun k hk=>by rw[hfs];exact ZM.2 ⟨k,List.mem_range.2 hk,rfl⟩
 have:=hf (F i) (hmem i hi)
 rw[Bool.or_eq_true]at this
 rcases this with h1|h1
 ·rw[Zo]at h1
  exact .inr ⟨by simpa using h1.1,Zj h1.2⟩
 ·exact .inl (ZP.1 h1 (F j) (hmem j hj))
theorem heapCall_T {E:Oracle}{dst:Option Nat}{f:Nat}{vs:List DV}{s s':St}{rd wr:List Nat}(h:Wq E dst f vs s=some (s',rd,wr)):∃v,s'.T=putT s.T dst v:=by
 unfold Wq at h
 split at h
 ·split at h
  ·simp only[Up,Za,Zl]at h;obtain⟨rfl,_,_⟩:=h;exact⟨_,rfl⟩
  ·simp at h
 ·simp at h
theorem step_T {E:Oracle}{base:Nat}{xo:XOper}{s s':St}{rd wr:List Nat}(h:Wi E base (Xe E xo.op) xo s=some (s',rd,wr)):∃v,s'.T=putT s.T xo.dst v:=by
 unfold Wi at h
 split at h
 ·simp at h
 ·simp only[Up,Za,Zl]at h;obtain⟨rfl,_,_⟩:=h;exact⟨_,rfl⟩
 ·split at h
  ·simp at h
  ·simp only[Yp]at h
   split at h
   ·unfold SC at h
    split at h
    ·exact heapCall_T h
    ·split at h
     ·exact heapCall_T h
     ·exact heapCall_T h
     ·simp at h
    ·simp at h
   ·split at h
    ·simp only[SD,valK_eq,Up,wrK_eq,alK_eq,Za,Zl]at h;obtain⟨rfl,_,_⟩:=h;exact⟨_,rfl⟩
    ·simp at h
theorem step_op {E:Oracle}{base:Nat}{xo:XOper}{s s':St}{rd wr:List Nat}(h:Wi E base (Xe E xo.op) xo s=some (s',rd,wr))(hh:Xe E xo.op=false):
  (VC s.T xo.guard=some false/\s'=⟨putT s.T xo.dst (.tup []),s.H⟩/\rd=[]/\wr=[])\/
  (VC s.T xo.guard=some true/\∃vs r,Xl (XOpd.eval s.T) xo.args=some vs/\XG E base xo.op vs (Xi s.H) s.H.length=some r/\s'=⟨putT s.T xo.dst r.val,addAl (WM s.H r.wr) r.al⟩/\rd=r.rd/\wr=r.wr.map (·.1)):=by
 unfold Wi at h
 split at h
 ·simp at h
 ·rename_i hg
  simp only[Up,Za,Zl]at h;obtain⟨rfl,rfl,rfl⟩:=h
  exact .inl ⟨hg,rfl,rfl,rfl⟩
 ·rename_i hg
  right
  refine⟨hg,?_⟩
  split at h
  ·simp at h
  ·rename_i vs hvs
   rw[hh]at h
   simp only[Bool.false_and,cond_false]at h
   split at h
   ·rename_i r hr
    simp only[SD,valK_eq,Up,wrK_eq,alK_eq,Za,Zl]at h;obtain⟨rfl,rfl,rfl⟩:=h
    exact⟨vs,r,hvs,hr,rfl,rfl,rfl⟩
   ·simp at h
theorem getT_putT (T:List (Nat×DV))(dst:Option Nat)(v:DV)(t:Nat)(h:dst≠some t):Xf (putT T dst v) t=Xf T t:=by
 cases dst with
 |none=>rfl
 |some d=>
  simp only[putT,Vv]
  rw[if_neg (fun e=>h (by rw[e]))]
section
variable {E:Oracle}{base:Nat}{xs:List XOper}{S:Nat->St}{F:Nat->Foot}
theorem Run.Sj (R:Run E base xs S F)(t a:Nat):∀(b:Nat),a<=b->b<=xs.length->(∀k xo,a<=k->k<b->xs[k]? =some xo->xo.dst≠some t)->Xf (S b).T t=Xf (S a).T t:=by
 intro b
 induction b with
 |zero=>intro h _ _;rw[show a=0 by omega]
 |succ b ih=>
  intro h1 h2 h3
  by_cases e:a=b+1
  ·rw[e]
  ·have hb:xs[b]? =some xs[b]:=Zf (by omega)
   obtain⟨v,hv⟩:=step_T (R.step b _ hb)
   rw[hv,getT_putT _ _ _ _ (h3 b _ (by omega) (by omega) hb)]
   exact ih (by omega) (by omega) fun k xo hk hk2 hx=>h3 k xo hk (by omega) hx
theorem HFof_addAl_lt (H al:List Blk)(id:Nat)(h:id<H.length):Xi (addAl H al) id=Xi H id:=by
 rw[SO];simp[Xi,Zy h]
theorem VS:∀(ws:List (Nat×Blk)) (H:List Blk),(WM H ws).length=H.length
 |[],_=>rfl
 |(id,b)::ws,H=>by simp only[WM];rw[VS ws];simp
theorem applyWr_get:∀(ws:List (Nat×Blk)) (H:List Blk) (id:Nat),id∉ws.map (·.1)->Xi (WM H ws) id=Xi H id
 |[],_,_,_=>rfl
 |(i,b)::ws,H,id,h=>by
  simp only[Zx,Zk,not_or]at h
  simp only[WM]
  rw[applyWr_get ws _ id h.2]
  simp only[Xi]
  rw[Zz (fun e=>h.1 e.symm)]
theorem step_H {xo:XOper}{s s':St}{rd wr:List Nat}(h:Wi E base (Xe E xo.op) xo s=some (s',rd,wr))(hh:Xe E xo.op=false):s.H.length<=s'.H.length/\∀id,id<s.H.length->id∉wr->Xi s'.H id=Xi s.H id:=by
 rcases step_op h hh with⟨_,rfl,_,_⟩|⟨_,vs,r,_,_,rfl,_,rfl⟩
 ·exact⟨Zg _,fun _ _ _=>rfl⟩
 ·refine⟨by simp only[];rw[SO,Zm,VS];omega,fun id hid hw=> ?_⟩
  simp only[]
  rw[HFof_addAl_lt _ _ _ (by rw[VS];exact hid),applyWr_get _ _ _ hw]
theorem Run.blk_same (R:Run E base xs S F)(id a:Nat)(ha:id<(S a).H.length):∀(b:Nat),a<=b->b<=xs.length->(∀k xo,a<=k->k<b->xs[k]? =some xo->Xe E xo.op=false/\id∉(F k).wr)->Xi (S b).H id=Xi (S a).H id/\id<(S b).H.length:=by
 intro b
 induction b with
 |zero=>intro h _ _;rw[show a=0 by omega]at ha⊢;exact⟨rfl,ha⟩
 |succ b ih=>
  intro h1 h2 h3
  by_cases e:a=b+1
  ·rw[e]at ha⊢;exact⟨rfl,ha⟩
  ·have hb:xs[b]? =some xs[b]:=Zf (by omega)
   obtain⟨g1,g2⟩:=h3 b _ (by omega) (by omega) hb
   obtain⟨hl,hs⟩:=step_H (R.step b _ hb) g1
   obtain⟨i1,i2⟩:=ih (by omega) (by omega) fun k xo hk hk2 hx=>h3 k xo hk (by omega) hx
   exact⟨by rw[hs id i2 g2,i1],by omega⟩
theorem Run.TF (R:Run E base xs S F)(a:Nat):∀(b:Nat),a<=b->b<=xs.length->(∀k xo,a<=k->k<b->xs[k]? =some xo->Xe E xo.op=false)->(S a).H.length<=(S b).H.length:=by
 intro b
 induction b with
 |zero=>intro h _ _;rw[show a=0 by omega];exact Zg _
 |succ b ih=>
  intro h1 h2 h3
  by_cases e:a=b+1
  ·rw[e];exact Zg _
  ·have hb:xs[b]? =some xs[b]:=Zf (by omega)
   obtain⟨hl,_⟩:=step_H (R.step b _ hb) (h3 b _ (by omega) (by omega) hb)
   exact ZC (ih (by omega) (by omega) fun k xo hk hk2 hx=>h3 k xo hk (by omega) hx) hl
theorem maker (S:Nat->St)(id:Nat)(h0:(S 0).H.length<=id):∀(b:Nat),id<(S b).H.length->∃k,k<b/\(S k).H.length<=id/\id<(S (k+1)).H.length:=by
 intro b
 induction b with
 |zero=>intro h;omega
 |succ b ih=>
  intro h2
  by_cases e:id<(S b).H.length
  ·obtain⟨k,hk,r⟩:=ih e;exact⟨k,by omega,r⟩
  ·exact⟨b,by omega,by omega,h2⟩
end
theorem close_gen:∀(os done:List XOper),∃ys,X4 done os=done++ys/\ys.length=os.length/\∀(i:Nat) (y:XOper),ys[i]? =some y->∃o,os[i]? =some o/\y.dst=o.dst/\y.op=o.op/\y.args=o.args/\y.guard=o.guard/\(∀k∈o.after,k∈y.after)/\
  ∀k∈y.after,k∈o.after\/∃j∈o.after,∃p,(done++ys)[j]? =some p/\k∈p.after
 |[],done=>⟨[],by simp[X4],rfl,fun i y h=>by simp at h⟩
 |o::os,done=>by
  obtain⟨ys,h1,h2,h3⟩:=close_gen os (done++[{o with after:=dd (o.after++o.after.flatMap (afterOf done))}])
  refine⟨{o with after:=dd (o.after++o.after.flatMap (afterOf done))}::ys,?_,by simp[h2],fun i y hi=> ?_⟩
  ·simp only[X4];rw[h1];simp
  ·cases i with
   |zero=>
    simp at hi;subst hi
    refine⟨o,rfl,rfl,rfl,rfl,rfl,fun k hk=>(mem_dd _ _).2 (Z3.2 (.inl hk)),fun k hk=> ?_⟩
    simp only[mem_dd,Z3,Ya]at hk
    rcases hk with hk|⟨j,hj,hk⟩
    ·exact .inl hk
    ·right
     refine⟨j,hj,?_⟩
     unfold afterOf at hk
     cases hd:done[j]? with
     |none=>simp[hd]at hk
     |some p=>
      simp only[hd]at hk
      refine⟨p,?_,hk⟩
      rw[Zy (Zb.1 hd).1];exact hd
   |succ i=>
    obtain⟨q,g1,g2,g3,g4,g5,g7,g6⟩:=h3 i y (by simpa using hi)
    refine⟨q,by simpa using g1,g2,g3,g4,g5,g7,fun k hk=> ?_⟩
    rcases g6 k hk with h|⟨j,hj,p,hp,hkp⟩
    ·exact .inl h
    ·exact .inr ⟨j,hj,p,by simpa using hp,hkp⟩
theorem close_spec (os:List XOper):(X4 [] os).length=os.length/\∀(i:Nat) (y:XOper),(X4 [] os)[i]? =some y->∃o,os[i]? =some o/\y.dst=o.dst/\y.op=o.op/\y.args=o.args/\y.guard=o.guard/\(∀k∈o.after,k∈y.after)/\
  ∀k∈y.after,k∈o.after\/∃j∈o.after,∃p,(X4 [] os)[j]? =some p/\k∈p.after:=by
 obtain⟨ys,h1,h2,h3⟩:=close_gen os []
 simp only[ZL]at h1 h3
 rw[h1]
 exact⟨h2,h3⟩
end Go.Ev
namespace Go.Ev
open Go.RowKit
theorem VQ (T:List (Nat×DV)):∀(ks:List Nat) (t:Nat),t∈ks->Xf (WR T ks) t=Xf T t
 |[],t,h=>by simp at h
 |k::ks,t,h=>by
  simp only[WR]
  cases hk:Xf T k with
  |none=>
   rcases Zk.1 h with rfl|h1
   ·by_cases hm:t∈ks
    ·exact VQ T ks t hm
    ·simp only[]
     cases hq:Xf (WR T ks) t with
     |none=>rw[hk]
     |some d=>exact absurd (TH T ks t d hq) (by rw[hk];simp)
   ·exact VQ T ks t h1
  |some v=>
   simp only[Vv]
   by_cases e:k=t
   ·subst e;rw[if_pos rfl,hk]
   ·rw[if_neg e]
    exact VQ T ks t ((Zk.1 h).resolve_left fun e'=>e e'.symm)
theorem eval_keep (T:List (Nat×DV))(ks:List Nat)(x:XOpd)(h:∀t∈x.tmp,t∈ks):x.eval (WR T ks)=x.eval T:=by
 cases x with
 |t n=>simp only[XOpd.eval];exact VQ T ks n (h n (by simp[XOpd.tmp]))
 |c v=>rfl
theorem mapO_congr {α β:Type}{f g:α->Option β}:∀(l:List α),(∀x∈l,f x=g x)->Xl f l=Xl g l
 |[],_=>rfl
 |x::xs,h=>by simp only[Xl];rw[h x (by simp),mapO_congr xs fun y hy=>h y (by simp[hy])]
theorem guard_keep (T:List (Nat×DV))(ks:List Nat)(g:Option (Nat×Bool))(h:∀t b,g=some (t,b)->t∈ks):VC (WR T ks) g=VC T g:=by
 cases g with
 |none=>rfl
 |some q=>obtain⟨t,b⟩:=q;simp only[VC];rw[VQ T ks t (h t b rfl)]
structure Flow (xs:List XOper):Prop where
 back:∀(i:Nat) (xo:XOper),xs[i]? =some xo->∀j∈xo.after,j<i
 uniq:∀(i j:Nat) (xi xj:XOper) (d:Nat),xs[i]? =some xi->xs[j]? =some xj->i≠j->xj.dst=some d->xi.dst≠some d
 order:∀(i j:Nat) (xi xj:XOper) (d:Nat),xs[i]? =some xi->xs[j]? =some xj->i≠j->xj.dst=some d->d∈xi.tmps->j∈xi.after\/i∈xj.after
theorem flow_of (xs:List XOper)(h:flowOk xs=true):Flow xs:=by
 unfold flowOk at h
 rw[ZP]at h
 have hm:∀(i:Nat) (xo:XOper),xs[i]? =some xo->(xo,i)∈xs.zipIdx:=fun i xo hi=>by
  rw[List.mem_zipIdx_iff_getElem?];exact hi
 have hi:∀(i:Nat) (xo:XOper),xs[i]? =some xo->(xo.after.all (fun j=>Nat.blt j i)=true)/\∀(j:Nat) (xj:XOper),xs[j]? =some xj->i≠j->∀d,xj.dst=some d->(xo.dst≠some d)/\(d∈xo.tmps->j∈xo.after\/i∈xj.after):=by
  intro i xo hxi
  have h1:=h (xo,i) (hm i xo hxi)
  simp only[Zo]at h1
  refine⟨h1.1,fun j xj hxj hne d hd=> ?_⟩
  have h2:=ZP.1 h1.2 (xj,j) (hm j xj hxj)
  simp only[Bool.or_eq_true,hd,Zo]at h2
  rcases h2 with h2|⟨h2,h3⟩
  ·exact absurd (by simpa using h2) hne
  ·refine⟨fun e=> ?_,fun hdt=> ?_⟩
   ·rw[e]at h2;simp at h2
   ·rcases h3 with(h3|h3)|h3
    ·rw[YJ]at h3
     have:=List.contains_iff_mem.2 hdt
     rw[h3]at this;cases this
    ·exact .inl (by simpa using h3)
    ·exact .inr (by simpa using h3)
 exact⟨fun i xo hxi j hj=>TL (ZP.1 (hi i xo hxi).1 j hj),fun i j xi xj d hxi hxj hne hd=>((hi i xi hxi).2 j xj hxj hne d hd).1,fun i j xi xj d hxi hxj hne hd=>((hi i xi hxi).2 j xj hxj hne d hd).2⟩
structure Touch (xs:List XOper)(F:Nat->Foot):Prop where
 wr:∀(i j:Nat) (xi:XOper),xs[i]? =some xi->j<xs.length->i≠j->∀id∈(F i).wr,id∉(F j).wr/\(id∈(F j).rd->j∈xi.after)
 made:∀(i j:Nat) (xj:XOper),i<xs.length->xs[j]? =some xj->i≠j->∀id,(F i).lo<=id->id<(F i).hi->(id∈(F j).rd\/id∈(F j).wr)->i∈xj.after
theorem touch_of {E:Oracle}{base:Nat}{xs:List XOper}{S:Nat->St}{F:Nat->Foot}(R:Run E base xs S F)(h:∀i j,i<xs.length->j<xs.length->i≠j->footOk (F i) (F j)=true\/((F i).wr=[]/\(F i).lo=(F i).hi)):Touch xs F:=by
 have hix:∀(i:Nat) (xo:XOper),xs[i]? =some xo->i<xs.length:=fun i xo hi=>(Zb.1 hi).1
 have parts:∀i j,i<xs.length->j<xs.length->i≠j->footOk (F i) (F j)=true->
   (∀id∈(F i).wr,id∉(F j).wr/\(id∈(F j).rd->(F j).i∈(F i).after))/\(∀id,(F i).lo<=id->id<(F i).hi->(id∈(F j).rd\/id∈(F j).wr)->(F i).i∈(F j).after):=by
  intro i j hi hj hne hf
  unfold footOk at hf
  have e1:=(R.foot i _ (Zf hi)).1
  have e2:=(R.foot j _ (Zf hj)).1
  rw[Bool.or_eq_true]at hf
  rcases hf with hf|hf
  ·exact absurd (by rw[<-e1,<-e2];exact Zj hf) hne
  ·simp only[Zo,ZP]at hf
   obtain⟨⟨h1,h2⟩,h3⟩:=hf
   refine⟨fun id hid=> ?_,fun id hlo hhi hor=> ?_⟩
   ·have:=h1 id hid
    simp only[Bool.or_eq_true,YJ]at this
    refine⟨fun hm=> ?_,fun hm=> ?_⟩
    ·have h:=List.contains_iff_mem.2 hm;rw[this.1]at h;cases h
    ·rcases this.2 with h|h
     ·have h':=List.contains_iff_mem.2 hm;rw[h]at h';cases h'
     ·simpa using h
   ·have hr:(Nat.ble (F i).lo id&&Nat.blt id (F i).hi)=true:=by
     rw[Zo,Nat.ble_eq,Nat.blt_eq];exact⟨hlo,hhi⟩
    rcases hor with hm|hm
    ·have:=h2 id hm;rw[hr]at this;simpa using this
    ·have:=h3 id hm;rw[hr]at this;simpa using this
 refine⟨fun i j xi hxi hj hne id hid=> ?_,fun i j xj hi hxj hne id hlo hhi hor=> ?_⟩
 ·have hi:=hix i xi hxi
  have e1:=(R.foot i _ hxi).2.1
  have e2:=(R.foot j _ (Zf hj)).1
  rcases h i j hi hj hne with hf|⟨hf,_⟩
  ·have:=(parts i j hi hj hne hf).1 id hid
   rw[e1,e2]at this;exact this
  ·rw[hf]at hid;simp at hid
 ·have hj:=hix j xj hxj
  have e1:=(R.foot j _ hxj).2.1
  have e2:=(R.foot i _ (Zf hi)).1
  rcases h i j hi hj hne with hf|⟨_,hf⟩
  ·have:=(parts i j hi hj hne hf).2 id hlo hhi hor
   rw[e1,e2]at this;exact this
  ·omega
structure Part (lo nt:Nat)(O:BS)(xs:List XOper)(S:Nat->St)(F:Nat->Foot)(L:Nat->Prop)(w:World)(μ:Nat->Nat)(h:HF)(a:Act):Prop where
 dfr:Marks lo O w μ h a.defers
 sz:a.tmps.size=nt
 done:∀(i:Nat) (xo:XOper),xs[i]? =some xo->L i->∀t,xo.dst=some t->∀d,Xf (S (i+1)).T t=some d->Xo w O μ h (a.tmps.getD t undef) d
 rest:∀t,(∀(i:Nat) (xo:XOper),xs[i]? =some xo->L i->xo.dst≠some t)->∀d,Xf (S 0).T t=some d->Xo w O μ h (a.tmps.getD t undef) d
 inv:HInv w O μ h
 wr:∀i,i<xs.length->L i->∀id∈(F i).wr,h id=Xi (S (i+1)).H id
 old:∀id,id<(S 0).H.length->(∀i,i<xs.length->L i->id∉(F i).wr)->h id=Xi (S 0).H id
 new:∀k,k<xs.length->L k->∀id,(S k).H.length<=id->id<(S (k+1)).H.length->(∀i,i<xs.length->L i->id∉(F i).wr)->h id=Xi (S (k+1)).H id
 none:∀id,(S 0).H.length<=id->(∀k,k<xs.length->L k->¬((S k).H.length<=id/\id<(S (k+1)).H.length))->h id=none
section
variable {lo:Nat}{E:Oracle}{base nt:Nat}{O:BS}{xs:List XOper}{S:Nat->St}{F:Nat->Foot}{L:Nat->Prop}{w:World}{μ:Nat->Nat}{h:HF}{a:Act}
theorem Part.slots (p:Part lo nt O xs S F L w μ h a)(R:Run E base xs S F)(fl:Flow xs){j:Nat}{xo:XOper}(hj:xs[j]? =some xo)(hnj:¬L j)(haf:∀k∈xo.after,L k)(hcl:∀(i:Nat) (xi:XOper),xs[i]? =some xi->L i->∀k∈xi.after,L k):
  Slots lo nt O w μ h a (WR (S j).T xo.tmps):=by
 have hjn:j<xs.length:=(Zb.1 hj).1
 refine⟨p.dfr,p.sz,fun t d ht=> ?_⟩
 have htm:t∈xo.tmps:=by
  have gen:∀(ks:List Nat),Xf (WR (S j).T ks) t=some d->t∈ks:=by
   intro ks
   induction ks with
   |nil=>intro h;simp[WR,Xf]at h
   |cons k ks ih=>
    intro h
    simp only[WR]at h
    cases hk:Xf (S j).T k with
    |none=>simp only[hk]at h;exact Zc _ (ih h)
    |some v=>
     simp only[hk,Vv]at h
     by_cases e:k=t
     ·subst e;exact Zh ..
     ·rw[if_neg e]at h;exact Zc _ (ih h)
  exact gen _ ht
 have htj:=TH _ _ _ _ ht
 by_cases hex:∃(i:Nat) (xi:XOper),xs[i]? =some xi/\i≠j/\xi.dst=some t
 ·obtain⟨i,xi,hi,hne,hd⟩:=hex
  have hin:i<xs.length:=(Zb.1 hi).1
  rcases fl.order j i xo xi t hj hi (fun e=>hne e.symm) hd htm with h1|h1
  ·have hij:=fl.back j xo hj i h1
   have:=R.Sj t (i+1) j (by omega) (by omega) fun k xk hk1 hk2 hxk=>fl.uniq k i xk xi t hxk hi (by omega) hd
   rw[this]at htj
   exact p.done i xi hi (haf i h1) t hd d htj
  ·have hji:=fl.back i xi hi j h1
   have hnLi:¬L i:=fun hLi=>hnj (hcl i xi hi hLi j h1)
   have:=R.Sj t 0 j (by omega) (by omega) fun k xk _ hk2 hxk=>fl.uniq k i xk xi t hxk hi (by omega) hd
   rw[this]at htj
   refine p.rest t (fun k xk hxk hLk=> ?_) d htj
   by_cases e:k=i
   ·subst e;exact absurd hLk hnLi
   ·exact fl.uniq k i xk xi t hxk hi e hd
 ·have:=R.Sj t 0 j (by omega) (by omega) fun k xk _ hk2 hxk hd=>hex ⟨k,xk,hxk,by omega,hd⟩
  rw[this]at htj
  refine p.rest t (fun k xk hxk hLk hd=> ?_) d htj
  exact hex ⟨k,xk,hxk,fun e=>hnj (e▸hLk),hd⟩
theorem Part.heap (p:Part lo nt O xs S F L w μ h a)(R:Run E base xs S F)(fl:Flow xs)(tc:Touch xs F){j:Nat}{xo:XOper}(hj:xs[j]? =some xo)(hnj:¬L j)(haf:∀k∈xo.after,L k)(hcl:∀(i:Nat) (xi:XOper),xs[i]? =some xi->L i->∀k∈xi.after,L k)
  (hnh:∀(k:Nat) (xk:XOper),k<j->xs[k]? =some xk->Xe E xk.op=false) (id:Nat) (hid:id∈(F j).rd) (hlen:id<(S j).H.length):h id=Xi (S j).H id:=by
 have hjn:j<xs.length:=(Zb.1 hj).1
 have hnoL:∀i,i<xs.length->L i->id∉(F i).wr:=by
  intro i hi hLi hw
  have hne:i≠j:=fun e=>hnj (e▸hLi)
  have hx:xs[i]? =some xs[i]:=Zf hi
  have:=(tc.wr i j _ hx hjn hne id hw).2 hid
  exact hnj (hcl i _ hx hLi j this)
 have hnoT:∀(k:Nat),k<j->id∉(F k).wr:=by
  intro k hk hw
  have hx:xs[k]? =some xs[k]:=Zf (by omega)
  have:=(tc.wr k j _ hx hjn (by omega) id hw).2 hid
  have:=fl.back k _ hx j this
  omega
 by_cases h0:id<(S 0).H.length
 ·rw[p.old id h0 hnoL]
  exact((R.blk_same id 0 h0 j (by omega) (by omega) fun k xk _ hk hx=>⟨hnh k xk hk hx,hnoT k hk⟩).1).symm
 ·obtain⟨k,hk,h1,h2⟩:=maker S id (by omega) j hlen
  have hkx:xs[k]? =some xs[k]:=Zf (by omega)
  obtain⟨_,_,e1,e2⟩:=R.foot k _ hkx
  have hLk:L k:=haf k (tc.made k j xo (by omega) hj (by omega) id (by rw[e1];exact h1) (by rw[e2];exact h2) (.inl hid))
  rw[p.new k (by omega) hLk id h1 h2 hnoL]
  exact((R.blk_same id (k+1) h2 j (by omega) (by omega) fun q xq _ hq hx=>⟨hnh q xq hq hx,hnoT q hq⟩).1).symm
end
end Go.Ev
namespace Go.Ev
open Go.RowKit
theorem TM:∀(ws:List (Nat×Blk)) (h:HF) (id:Nat),id∉ws.map (·.1)->Uk h ws id=h id
 |[],_,_,_=>rfl
 |(i,b)::ws,h,id,hn=>by
  simp only[Zx,Zk,not_or]at hn
  simp only[Uk]
  rw[TM ws _ id hn.2]
  simp[hn.1]
theorem updWr_in:∀(ws:List (Nat×Blk)) (h h2:HF) (id:Nat),id∈ws.map (·.1)->Uk h ws id=Uk h2 ws id
 |[],_,_,_,hn=>by simp at hn
 |(i,b)::ws,h,h2,id,hn=>by
  simp only[Uk]
  by_cases hm:id∈ws.map (·.1)
  ·exact updWr_in ws _ _ id hm
  ·have :id=i:=by simpa[hm]using hn
   subst this
   rw[TM ws _ id hm,TM ws _ id hm];simp
theorem Tv:∀(al:List Blk) (h:HF) (n id:Nat),(id<n\/n+al.length<=id)->To h n al id=h id
 |[],_,_,_,_=>rfl
 |b::bs,h,n,id,hn=>by
  simp only[To]
  rw[Tv bs _ (n+1) id (by simp only[Zi]at hn;omega)]
  have :id≠n:=by simp only[Zi]at hn;omega
  simp[this]
theorem updAl_in:∀(al:List Blk) (h h2:HF) (n id:Nat),n<=id->id<n+al.length->To h n al id=To h2 n al id
 |[],_,_,_,_,_,hn=>by simp at hn;omega
 |b::bs,h,h2,n,id,h1,hn=>by
  simp only[To]
  by_cases e:id=n
  ·subst e
   rw[Tv bs _ _ _ (.inl (by omega)),Tv bs _ _ _ (.inl (by omega))];simp
  ·exact updAl_in bs _ _ _ _ (by omega) (by simp only[Zi]at hn;omega)
section
variable {lo:Nat}{E:Oracle}{base nt:Nat}{O:BS}{xs:List XOper}{S:Nat->St}{F:Nat->Foot}{L:Nat->Prop}{w w':World}{μ μ':Nat->Nat}{h:HF}{a:Act}
theorem put_other (a:Act)(dst:Option Nat)(v:Value)(t:Nat)(ht:dst≠some t):(a.put dst v).tmps.getD t undef=a.tmps.getD t undef:=by
 cases dst with
 |none=>rfl
 |some q=>
  have e:q≠t:=fun e=>ht (by rw[e])
  simp only[Act.put]
  rw[ZF,Array.getElem?_setIfInBounds_ne e,ZF]
theorem put_same (a:Act)(t:Nat)(v:Value)(ht:t<a.tmps.size):(a.put (some t) v).tmps.getD t undef=v:=by
 simp only[Act.put]
 rw[ZF,Yw ht];rfl
theorem put_defers (a:Act)(dst:Option Nat)(v:Value):(a.put dst v).defers=a.defers/\(a.put dst v).tmps.size=a.tmps.size:=by
 cases dst<;>simp[Act.put]
theorem Run.inner (R:Run E base xs S F){i:Nat}{xi:XOper}(hi:xs[i]? =some xi)(hlt:i+1<xs.length):Xe E xi.op=false:=by
 cases hh:Xe E xi.op with
 |false=>rfl
 |true=>have:=(R.heap i xi hi hh).1;omega
theorem Part.add (p:Part lo nt O xs S F L w μ h a)(R:Run E base xs S F)(fl:Flow xs)(tc:Touch xs F){j:Nat}{xo:XOper}(hj:xs[j]? =some xo)(hnj:¬L j)
  (hcl:∀(i:Nat) (xi:XOper),xs[i]? =some xi->L i->∀k∈xi.after,L k) (hdst:dstOk nt xo.dst=true) (d:DV) (v:Value) (wr:List (Nat×Blk)) (al:List Blk)
  (hS:S (j+1)=⟨putT (S j).T xo.dst d,addAl (WM (S j).H wr) al⟩) (hF:(F j).wr=wr.map (·.1)) (hwr:∀q∈wr,q.1<(S j).H.length/\∃b,h q.1=some b)
  (hv:Xo w' O μ' (To (Uk h wr) (S j).H.length al) v d) (hI:HInv w' O μ' (To (Uk h wr) (S j).H.length al)) (hm:Mono O w μ h w' μ' (To (Uk h wr) (S j).H.length al)):
  Part lo nt O xs S F (fun i=>L i\/i=j) w' μ' (To (Uk h wr) (S j).H.length al) (a.put xo.dst v):=by
 have hjn:j<xs.length:=(Zb.1 hj).1
 have hl1:(S (j+1)).H.length=(S j).H.length+al.length:=by rw[hS];simp only[];rw[SO,Zm,VS]
 have h0j:(S 0).H.length<=(S j).H.length:=R.TF 0 j (by omega) (by omega) fun k xk _ hk hx=>R.inner hx (by omega)
 have hSj:Xi (S (j+1)).H=To (Uk (Xi (S j).H) wr) (S j).H.length al:=by
  obtain⟨e1,e2⟩:=HFof_wr wr (S j).H fun q hq=>(hwr q hq).1
  rw[hS];simp only[];rw[SO,HFof_al,e1,e2]
 have same:∀id,id∉(F j).wr->¬((S j).H.length<=id/\id<(S (j+1)).H.length)->To (Uk h wr) (S j).H.length al id=h id:=by
  intro id h1 h2
  rw[Tv al _ _ id (by rw[hl1]at h2;omega),TM wr h id (by rw[<-hF];exact h1)]
 refine⟨by rw[(put_defers a xo.dst v).1];exact p.dfr.mono hm,(put_defers a xo.dst v).2.trans p.sz,fun i xi hi hL t ht dd hd=> ?_,fun t ht dd hd=> ?_,hI,fun i hi hL id hid=> ?_,fun id hid hno=> ?_,fun k hk hL id h1 h2 hno=> ?_,fun id h0 hno=> ?_⟩
 ·rcases hL with hL|rfl
  ·have hne:i≠j:=fun e=>hnj (e▸hL)
   rw[put_other a xo.dst v t (fl.uniq j i xo xi t hj hi (fun e=>hne e.symm) ht)]
   exact(p.done i xi hi hL t ht dd hd).mono hm
  ·rw[hj]at hi;cases hi
   rw[ht]at hdst⊢
   rw[put_same a t v (by rw[p.sz];exact TL hdst)]
   rw[hS,ht]at hd
   simp only[putT,Vv,if_true]at hd
   cases hd;exact hv
 ·have hdj:xo.dst≠some t:=ht j xo hj (.inr rfl)
  rw[put_other a xo.dst v t hdj]
  exact(p.rest t (fun i xi hi hL=>ht i xi hi (.inl hL)) dd hd).mono hm
 ·rcases hL with hL|rfl
  ·have hne:i≠j:=fun e=>hnj (e▸hL)
   have hx:xs[i]? =some xs[i]:=Zf hi
   rw[same id ((tc.wr i j _ hx hjn hne id hid).1) fun hr=> ?_]
   ·exact p.wr i hi hL id hid
   ·obtain⟨_,_,e1,e2⟩:=R.foot j xo hj
    exact hnj (hcl i _ hx hL j (tc.made j i _ hjn hx (fun e=>hne e.symm) id (by rw[e1];exact hr.1) (by rw[e2];exact hr.2) (.inr hid)))
  ·rw[hF]at hid
   have hlt:id<(S i).H.length:=by
    obtain⟨q,hq,rfl⟩:=ZM.1 hid;exact(hwr q hq).1
   rw[hSj,Tv al _ _ id (.inl hlt),Tv al _ _ id (.inl hlt)]
   exact updWr_in wr _ _ id hid
 ·rw[same id (hno j hjn (.inr rfl)) (by omega)]
  exact p.old id hid fun i hi hL=>hno i hi (.inl hL)
 ·rcases hL with hL|rfl
  ·have hne:k≠j:=fun e=>hnj (e▸hL)
   have hnr:¬((S j).H.length<=id/\id<(S (j+1)).H.length):=by
    intro hr
    rcases Nat.lt_or_gt_of_ne hne with hlt|hgt
    ·have:=R.TF (k+1) j (by omega) (by omega) fun q xq _ hq hx=>R.inner hx (by omega)
     omega
    ·have:=R.TF (j+1) k (by omega) (by omega) fun q xq _ hq hx=>R.inner hx (by omega)
     omega
   rw[same id (hno j hjn (.inr rfl)) hnr]
   exact p.new k hk hL id h1 h2 fun i hi hLi=>hno i hi (.inl hLi)
  ·rw[hSj]
   exact updAl_in al _ _ _ id h1 (by omega)
 ·have hnr:¬((S j).H.length<=id/\id<(S (j+1)).H.length):=hno j hjn (.inr rfl)
  have hn:=p.none id h0 fun k hk hL=>hno k hk (.inl hL)
  have hnw:id∉(F j).wr:=by
   intro hw
   rw[hF]at hw
   obtain⟨q,hq,rfl⟩:=ZM.1 hw
   obtain⟨b,hb⟩:=(hwr q hq).2
   rw[hn]at hb;cases hb
  rw[same id hnw hnr];exact hn
end
end Go.Ev
namespace Go.Ev
open Go.RowKit
theorem filter_lt {α:Type}(p q:α->Bool):∀(l:List α),(∀x∈l,q x=true->p x=true)->(∃x∈l,p x=true/\q x=false)->(l.filter q).length<(l.filter p).length
 |[],_,h=>by obtain⟨x,hx,_⟩:=h;simp at hx
 |y::l,h1,h2=>by
  have hle:(l.filter q).length<=(l.filter p).length:=by
   clear h2
   induction l with
   |nil=>simp
   |cons z l ih=>
    have hz:=h1 z (by simp)
    have:=ih fun x hx=>h1 x (by rcases Zk.1 hx with h|h<;>simp[h])
    cases hq:q z<;>cases hp:p z<;>simp_all<;>omega
  by_cases hy:p y=true/\q y=false
  ·simp[hy.1,hy.2];omega
  ·have hex:∃x∈l,p x=true/\q x=false:=by
    obtain⟨x,hx,hpq⟩:=h2
    rcases Zk.1 hx with rfl|hx
    ·exact absurd hpq hy
    ·exact⟨x,hx,hpq⟩
   have:=filter_lt p q l (fun x hx=>h1 x (by simp[hx])) hex
   have hy1:=h1 y (by simp)
   cases hq:q y<;>cases hp:p y<;>simp_all
def unl (n:Nat)(listed:Array Bool):Nat:=((List.range n).filter fun i=> !listed.getD i false).length
theorem unl_set (n:Nat)(listed:Array Bool)(i:Nat)(hi:i<n)(hsz:listed.size=n)(h:listed.getD i false=false):unl n (listed.setIfInBounds i true)<unl n listed:=by
 refine filter_lt _ _ _ (fun x _ hx=> ?_) ⟨i,List.mem_range.2 hi,by simp[h],?_⟩
 ·by_cases e:i=x
  ·subst e
   rw[ZF,Yw (by omega)]at hx
   simp at hx
  ·rw[ZF,Array.getElem?_setIfInBounds_ne e,<-ZF]at hx
   exact hx
 ·rw[ZF,Yw (by omega)];rfl
theorem unl_zero (n:Nat)(listed:Array Bool)(h:unl n listed=0):∀i,i<n->listed.getD i false=true:=by
 intro i hi
 unfold unl at h
 have:=YB h
 rw[List.filter_eq_nil_iff]at this
 simpa using this i (List.mem_range.2 hi)
theorem Sr (ops:Array Oper)(listed:Array Bool)(i:Nat):i∈Region.ready .any ops listed↔i<ops.size/\listed.getD i true=false/\∀o,ops[i]? =some o->∀e∈o.after,Region.binds .any e=true->listed.getD e.on false=true:=by
 unfold Region.ready
 rw[YC,List.mem_range]
 constructor
 ·intro⟨h1,h2⟩
  simp only[Zo,YJ]at h2
  refine⟨h1,h2.1,fun o ho e he hb=> ?_⟩
  have:=h2.2
  rw[ho]at this
  simp only[ZS,Option.getD_some,Array.all_eq_true_iff_forall_mem]at this
  have:=this e he
  simpa[hb]using this
 ·intro⟨h1,h2,h3⟩
  refine⟨h1,?_⟩
  simp only[Zo,YJ]
  refine⟨h2,?_⟩
  have ho:ops[i]? =some ops[i]:=Array.getElem?_eq_getElem h1
  rw[ho]
  simp only[ZS,Option.getD_some,Array.all_eq_true_iff_forall_mem]
  intro e he
  cases hb:Region.binds .any e with
  |false=>rfl
  |true=>simpa[hb]using h3 _ ho e he hb
section
variable {lo:Nat}{P:Program}{E:Oracle}{base nt:Nat}{O:BS}{xs:List XOper}{S:Nat->St}{F:Nat->Foot}{L:Nat->Prop}{w:World}{μ:Nat->Nat}{h:HF}{a:Act}
theorem Run.wr_lt (R:Run E base xs S F){i:Nat}{xi:XOper}(hi:xs[i]? =some xi)(hh:Xe E xi.op=false):∀id∈(F i).wr,id<(S i).H.length:=by
 intro id hid
 rcases step_op (R.step i xi hi) hh with⟨_,_,_,e⟩|⟨_,vs,r,_,hev,_,_,e⟩
 ·rw[e]at hid;simp at hid
 ·rw[e]at hid
  obtain⟨q,hq,rfl⟩:=ZM.1 hid
  obtain⟨b,hb⟩:=evOp_wr E base xi.op vs _ _ r hev q hq
  simp only[Xi]at hb
  exact(Zb.1 hb).1
theorem Part.full (p:Part lo nt O xs S F L w μ h a)(R:Run E base xs S F)(fl:Flow xs)(tc:Touch xs F)(m:Nat)(hm:m<=xs.length)(hL:∀i,i<xs.length->(L i↔i<m))(hnh:∀(k:Nat) (xk:XOper),k<m->xs[k]? =some xk->Xe E xk.op=false):
  Slots lo nt O w μ h a (S m).T/\h=Xi (S m).H:=by
 have hget:∀(i:Nat) (hi:i<xs.length),xs[i]? =some (xs[i]'hi):=fun i hi=>Zf hi
 have hlt:∀(i:Nat) (xi:XOper),xs[i]? =some xi->i<xs.length:=fun i xi hi=>(Zb.1 hi).1
 refine⟨⟨p.dfr,p.sz,fun t d hd=> ?_⟩,?_⟩
 ·by_cases hex:∃(i:Nat) (xi:XOper),xs[i]? =some xi/\i<m/\xi.dst=some t
  ·obtain⟨i,xi,hi,him,hdst⟩:=hex
   have:=R.Sj t (i+1) m (by omega) hm fun k xk hk1 hk2 hxk=>fl.uniq k i xk xi t hxk hi (by omega) hdst
   rw[this]at hd
   exact p.done i xi hi ((hL i (hlt i xi hi)).2 him) t hdst d hd
  ·have:=R.Sj t 0 m (by omega) hm fun k xk _ hk2 hxk hdst=>hex ⟨k,xk,hxk,hk2,hdst⟩
   rw[this]at hd
   exact p.rest t (fun i xi hi hLi hdst=>hex ⟨i,xi,hi,(hL i (hlt i xi hi)).1 hLi,hdst⟩) d hd
 ·funext id
  by_cases hex:∃i,i<m/\id∈(F i).wr
  ·obtain⟨i,him,hw⟩:=hex
   have hi:i<xs.length:=by omega
   rw[p.wr i hi ((hL i hi).2 him) id hw]
   have h1:=R.wr_lt (hget i hi) (hnh i _ him (hget i hi)) id hw
   have h2:=(step_H (R.step i _ (hget i hi)) (hnh i _ him (hget i hi))).1
   exact((R.blk_same id (i+1) (by omega) m (by omega) hm fun k xk hk1 hk2 hxk=>⟨hnh k xk hk2 hxk,(tc.wr i k _ (hget i hi) (hlt k xk hxk) (by omega) id hw).1⟩).1).symm
  ·have hno:∀i,i<xs.length->L i->id∉(F i).wr:=fun i hi hLi hw=>hex ⟨i,(hL i hi).1 hLi,hw⟩
   by_cases h0:id<(S 0).H.length
   ·rw[p.old id h0 hno]
    exact((R.blk_same id 0 h0 m (by omega) hm fun k xk _ hk hx=>⟨hnh k xk hk hx,fun hw=>hex ⟨k,hk,hw⟩⟩).1).symm
   ·by_cases h1:id<(S m).H.length
    ·obtain⟨k,hk,g1,g2⟩:=maker S id (by omega) m h1
     rw[p.new k (by omega) ((hL k (by omega)).2 hk) id g1 g2 hno]
     exact((R.blk_same id (k+1) g2 m (by omega) hm fun q xq _ hq hx=>⟨hnh q xq hq hx,fun hw=>hex ⟨q,hq,hw⟩⟩).1).symm
    ·rw[p.none id (by omega) fun k hk hLk hr=> ?_]
     ·simp only[Xi];rw[Ys (by omega)]
     ·have hkm:=(hL k hk).1 hLk
      have:=R.TF (k+1) m (by omega) hm fun q xq _ hq hx=>hnh q xq hq hx
      omega
theorem evOper_after (E:Oracle)(base:Nat)(heap:Bool)(x y:XOper)(s:St)(h1:x.dst=y.dst)(h2:x.op=y.op)(h3:x.args=y.args)(h4:x.guard=y.guard):Wi E base heap x s=Wi E base heap y s:=by
 obtain⟨d,o,a,g,f⟩:=x
 obtain⟨d',o',a',g',f'⟩:=y
 simp only at h1 h2 h3 h4
 subst h1;subst h2;subst h3;subst h4
 rfl
theorem VR {ops:List Oper}{o:Oper}{xo:XOper}(h:Vp P nt ops o=some xo):Xv P o.op=some (xo.op,xo.args)/\UO ops o.guard=some xo.guard/\xo.dst=o.dst/\dstOk nt o.dst=true/\xo.after=(o.after.toList.filter (Region.binds .any)).map (·.on):=by
 unfold Vp at h
 cases hop:Xv P o.op with
 |none=>simp[hop]at h
 |some q=>
 obtain⟨op,args⟩:=q
 simp only[hop]at h
 cases hg:UO ops o.guard with
 |none=>simp[hg]at h
 |some g=>
 simp only[hg]at h
 split at h<;>simp only[Za,reduceCtorEq]at h
 rename_i hd
 subst h
 exact⟨rfl,rfl,rfl,hd,rfl⟩
end
end Go.Ev
namespace Go.Ev
open Go.RowKit
theorem min_unlisted (n:Nat)(p:Nat->Bool):(∀i,i<n->p i=true)\/∃i,i<n/\p i=false/\∀k,k<i->p k=true:=by
 induction n with
 |zero=>exact .inl fun i hi=>by omega
 |succ n ih=>
  rcases ih with h|⟨i,h1,h2,h3⟩
  ·cases hp:p n with
   |true=>exact .inl fun i hi=>by by_cases e:i=n;exact e▸hp;exact h i (by omega)
   |false=>exact .inr ⟨n,by omega,hp,h⟩
  ·exact .inr ⟨i,by omega,h2,h3⟩
theorem Uu (l:Array Bool)(i:Nat)(h:i<l.size):l.getD i true=l.getD i false:=by
 simp[h]
theorem all_done {F:Fence}{n:Nat}{P:Program}{ops:Array Oper}{Q:Exit->Act->World->Prop}(fuel:Nat)(listed:Array Bool)(a:Act)(w:World)(hsz:listed.size=ops.size)(hall:∀i,i<ops.size->listed.getD i false=true)(hq:Q .normal a w):wpAnyIn F n P .any ops Q fuel listed a w:=by
 have hr:Region.ready .any ops listed=[]:=by
  apply List.eq_nil_iff_forall_not_mem.2
  intro i hi
  rw[Sr]at hi
  have:=hall i hi.1
  rw[Uu listed i (by omega),this]at hi
  exact absurd hi.2.1 (by simp)
 cases fuel with
 |zero=>exact⟨hr,hq⟩
 |succ k=>exact⟨fun _=>hq,fun i hi=>by rw[hr]at hi;simp at hi⟩
theorem TB (l:Array Bool)(i k:Nat)(hi:i<l.size):(l.setIfInBounds i true).getD k false=true↔l.getD k false=true\/k=i:=by
 by_cases e:i=k
 ·subst e
  rw[ZF,Yw hi];simp
 ·rw[ZF,Array.getElem?_setIfInBounds_ne e,<-ZF]
  constructor
  ·exact .inl
  ·rintro (h|h)
   ·exact h
   ·exact absurd h.symm e
theorem part_congr {lo nt:Nat}{O:BS}{xs:List XOper}{S:Nat->St}{F:Nat->Foot}{L L':Nat->Prop}{w:World}{μ:Nat->Nat}{h:HF}{a:Act}(hL:L=L')(p:Part lo nt O xs S F L w μ h a):Part lo nt O xs S F L' w μ h a:=hL▸p
theorem evOp_rd (E:Oracle)(base:Nat)(op:XOp)(vs:List DV)(h:HF)(n:Nat)(r:Res)(hr:XG E base op vs h n=some r):∀id∈r.rd,∃b,h id=some b:=by
 have pure:∀f dv,Wc E h f dv=some r->∀id∈r.rd,∃b,h id=some b:=by
  intro f dv hp id hid
  have hrd:r.rd=dv.flatMap (UC h):=by
   unfold Wc at hp
   split at hp
   ·split at hp
    ·split at hp
     ·simp only[Yp]at hp
      split at hp<;>simp only[Za]at hp<;>subst hp<;>rfl
     ·simp at hp
    ·simp at hp
   ·simp at hp
  rw[hrd]at hid
  obtain⟨d,_,hd⟩:=Ya.1 hid
  exact idsV_some d id hd
 have chunks:∀(y:DL) (new:List (List DL)) (ids:List Nat),XX h y=some (new,ids)->∀id∈ids,∃b,h id=some b:=by
  intro y new ids hc id hid
  unfold XX at hc
  split at hc
  ·simp only[Za,Zl]at hc;obtain⟨_,rfl⟩:=hc;simp at hid
  ·simp only[Za,Zl]at hc;obtain⟨_,rfl⟩:=hc;simp at hid
  ·split at hc
   ·rename_i b hb
    obtain⟨_,heq⟩:=Xk hc
    simp only[Zl]at heq;obtain⟨_,rfl⟩:=heq
    simp at hid;subst hid;exact⟨b,hb⟩
   ·simp at hc
  ·simp at hc
 cases op with
 |call f=>exact pure f vs hr
 |callV=>
  simp only[XG,V6]at hr
  split at hr
  ·exact pure _ _ hr
  ·exact pure _ _ hr
  ·simp at hr
 |load agg sz=>
  simp only[XG,S3]at hr
  split at hr
  ·split at hr<;>simp only[Za,reduceCtorEq]at hr
   subst hr;intro id hid;simp[Res.pure]at hid
  ·rename_i id ver i off
   split at hr
   ·rename_i c hc
    obtain⟨_,hr⟩:=XA hr
    split at hr<;>simp only[Za,reduceCtorEq]at hr
    subst hr
    intro id' hid;simp at hid;subst hid
    unfold UZ at hc
    split at hc
    ·rename_i b hb;exact⟨b,hb⟩
    ·simp at hc
   ·simp at hr
  ·simp at hr
 |store sz=>
  simp only[XG,TO]at hr
  split at hr
  ·split at hr
   ·rename_i b hb
    split at hr
    ·simp only[SQ]at hr
     obtain⟨_,hr⟩:=XA hr
     split at hr
     ·obtain⟨_,rfl⟩:=Xk hr
      intro q hq;simp at hq;subst hq;exact⟨b,hb⟩
     ·simp at hr
    ·simp at hr
   ·simp at hr
  ·simp at hr
 |indexS sz=>
  simp only[XG,WH]at hr
  split at hr
  ·split at hr
   ·obtain⟨_,rfl⟩:=Xk hr;intro id hid;simp[Res.pure]at hid
   ·simp at hr
  ·split at hr
   ·rename_i b hb
    obtain⟨_,rfl⟩:=Xk hr
    intro q hq;simp at hq;subst hq;exact⟨b,hb⟩
   ·simp at hr
  ·simp at hr
 |slice sz lo hi=>
  simp only[XG,TP]at hr
  split at hr
  ·split at hr
   ·rename_i d rd hsi
    simp only[Za]at hr;subst hr
    intro id hid
    unfold X6 at hsi
    split at hsi
    ·obtain⟨_,heq⟩:=Xk hsi
     simp only[Zl]at heq;obtain⟨_,rfl⟩:=heq;simp at hid
    ·obtain⟨_,heq⟩:=Xk hsi
     simp only[Zl]at heq;obtain⟨_,rfl⟩:=heq;simp at hid
    ·split at hsi
     ·rename_i b hb
      obtain⟨_,heq⟩:=Xk hsi
      simp only[Zl]at heq;obtain⟨_,rfl⟩:=heq
      simp at hid;subst hid;exact⟨b,hb⟩
     ·simp at hsi
    ·simp at hsi
   ·simp at hr
  ·simp at hr
 |append e sz bytes=>
  simp only[XG,Wk]at hr
  split at hr
  ·split at hr
   ·rename_i new ids hc
    obtain⟨_,hr⟩:=XA hr
    split at hr
    ·simp only[X8]at hr
     obtain⟨_,hr⟩:=XA hr
     split at hr<;>simp only[Za]at hr<;>subst hr<;>exact chunks _ _ _ hc
    ·split at hr
     ·rename_i b hb
      rw[Yp]at hr
      split at hr
      ·simp only[VX]at hr
       obtain⟨_,rfl⟩:=Xk hr
       intro q hq
       rcases Zk.1 hq with rfl|hq
       ·exact⟨b,hb⟩
       ·exact chunks _ _ _ hc q hq
      ·simp only[Tg]at hr
       obtain⟨_,rfl⟩:=Xk hr
       intro q hq
       rcases Zk.1 hq with rfl|hq
       ·exact⟨b,hb⟩
       ·exact chunks _ _ _ hc q hq
     ·simp at hr
    ·simp at hr
   ·simp at hr
  ·simp at hr
 |clear z=>
  simp only[XG,TR]at hr
  split at hr
  ·split at hr
   ·rename_i b hb
    obtain⟨_,rfl⟩:=Xk hr
    intro q hq;simp at hq;subst hq;exact⟨b,hb⟩
   ·simp at hr
  ·simp at hr
 |copy sz=>
  simp only[XG,S5]at hr
  split at hr
  ·split at hr
   ·rename_i b hb
    split at hr
    ·rename_i new ids hc
     simp only[copyIn]at hr
     obtain⟨_,rfl⟩:=Xk hr
     intro q hq
     rcases Zk.1 hq with rfl|hq
     ·exact⟨b,hb⟩
     ·exact chunks _ _ _ hc q hq
    ·simp at hr
   ·simp at hr
  ·simp at hr
 |lookup klen k agg z ok=>
  simp only[XG,TE]at hr
  split at hr
  ·split at hr
   ·rename_i b hb
    simp only[lookIn,Yp]at hr
    (repeat' split at hr)<;>simp only[Za,reduceCtorEq]at hr<;>subst hr<;>(intro q hq;simp at hq;subst hq;exact⟨b,hb⟩)
   ·simp at hr
  ·simp at hr
 |mapUpdate klen k agg vsz=>
  simp only[XG,VL]at hr
  split at hr
  ·split at hr
   ·rename_i b hb
    split at hr
    ·obtain⟨_,hr⟩:=XA hr
     unfold updIn at hr
     split at hr<;>simp only[Za,reduceCtorEq]at hr<;>subst hr<;>(intro q hq;simp at hq;subst hq;exact⟨b,hb⟩)
    ·simp at hr
   ·simp at hr
  ·simp at hr
 |lenMap=>
  simp only[XG,U6]at hr
  split at hr
  ·split at hr
   ·rename_i b hb
    obtain⟨_,rfl⟩:=Xk hr
    intro q hq;simp at hq;subst hq;exact⟨b,hb⟩
   ·simp at hr
  ·simp at hr
 |_=>
  have hnil:r.rd=[]:=by
   simp only[XG,opMove,UH,opPick,opBox,TS,S6,WW,opBin,opBinB,WX,WY,opUn,opConv,Vg,U7,W8,Us,S4,UJ,TQ,opLenA,Vf,Uc,Vj,UI,Su,Yp]at hr
   (repeat' split at hr)<;>simp only[Za,reduceCtorEq]at hr<;>subst hr<;>rfl
  rw[hnil];simp
theorem sureFrom_spec:∀(l:List XOper) (m:Nat),Sh m l=true->∀(i:Nat) (xo:XOper),l[i]? =some xo->∀k,k<m+i->k∈xo.after
 |[],_,_,i,xo,hi=>by simp at hi
 |o::os,m,h,i,xo,hi=>by
  simp only[Sh,Zo]at h
  intro k hk
  cases i with
  |zero=>simp at hi;subst hi;exact Rg _ _ h.1 k (by omega)
  |succ i=>exact sureFrom_spec os (m+1) h.2 i xo (by simpa using hi) k (by omega)
def OpAt (P:Program)(nt:Nat)(ops:Array Oper)(ys:List XOper):Prop:=
 ∀(i:Nat) (xo:XOper),ys[i]? =some xo->∃o xo0,ops[i]? =some o/\Vp P nt ops.toList o=some xo0/\xo.dst=xo0.dst/\xo.op=xo0.op/\xo.args=xo0.args/\xo.guard=xo0.guard/\(∀k∈xo0.after,k∈xo.after)/\
  (∀k∈xo.after,k∈xo0.after\/∃j∈xo0.after,∃p,ys[j]? =some p/\k∈p.after)
theorem suf_ok {P:Program}{E:Oracle}(hE:OracleOk P E){F:Fence}(hF:Vc F){n lo base nt:Nat}{O:BS}{ops:Array Oper}{ys:List XOper}(hnx:ys.length=ops.size)(hop:OpAt P nt ops ys)(fl:Flow ys)
  {m:Nat} (sure:∀(i:Nat) (xo:XOper),m<=i->ys[i]? =some xo->∀k,k<i->k∈xo.after) {Q:Exit->Act->World->Prop} {w:World} {μ:Nat->Nat} {hh:HF} {s':St}
  (hk:∀a' w' μ',HInv w' O μ' (Xi s'.H)->Slots lo nt O w' μ' (Xi s'.H) a' s'.T->Mono O w μ hh w' μ' (Xi s'.H)->Q .normal a' w'):
  ∀(fuel k:Nat) (listed:Array Bool) (a:Act) (w':World) (μ':Nat->Nat) (s:St),listed.size=ys.length->unl ys.length listed<=fuel->m<=k->k<=ys.length->(∀i,listed.getD i false=true↔i<k)->Vi E base (ys.drop k) s=some s'->
   HInv w' O μ' (Xi s.H)->Slots lo nt O w' μ' (Xi s.H) a s.T->Mono O w μ hh w' μ' (Xi s.H)->wpAnyIn F n P .any ops Q fuel listed a w':=by
 intro fuel
 induction fuel with
 |zero=>
  intro k listed a w' μ' s hsz hun hmk hkl hL hev hI hsl hmn
  have hall:=unl_zero _ _ (Nat.le_zero.1 hun)
  have hke:k=ys.length:=by
   rcases Yn k ys.length with h1|h1
   ·have:=(hL k).1 (hall k h1);omega
   ·omega
  subst hke
  simp only[List.drop_length,Vi,Za]at hev;subst hev
  exact all_done 0 listed a w' (by omega) (fun i hi=>hall i (by omega)) (hk a w' μ' hI hsl hmn)
 |succ fuel ih=>
  intro k listed a w' μ' s hsz hun hmk hkl hL hev hI hsl hmn
  rcases Yn k ys.length with hlt|hge
  ·have hx:ys[k]? =some ys[k]:=Zf hlt
   rw[Z1 hlt]at hev
   generalize ys[k]=xo at hx hev
   simp only[Vi]at hev
   cases hst:Wi E base true xo s with
   |none=>simp[hst]at hev
   |some q=>
   obtain⟨s2,rd,wr⟩:=q
   simp only[hst]at hev
   have hnk:listed.getD k false=false:=by
    cases hb:listed.getD k false with
    |false=>rfl
    |true=>have:=(hL k).1 hb;omega
   refine⟨fun hr=> ?_,fun i hi=> ?_⟩
   ·exfalso
    obtain⟨o,xo0,ho,hc,_,_,_,_,g5,_⟩:=hop k _ hx
    have hmem:k∈Region.ready .any ops listed:=by
     rw[Sr]
     refine⟨by omega,by rw[Uu listed k (by omega)];exact hnk,fun o' ho' e he hb=> ?_⟩
     rw[ho]at ho';cases ho'
     have haf:=(VR hc).2.2.2.2
     have :e.on∈xo0.after:=by rw[haf];exact ZM.2 ⟨e,YC.2 ⟨by simpa using he,hb⟩,rfl⟩
     exact(hL _).2 (fl.back k _ hx _ (g5 _ this))
    rw[hr]at hmem;simp at hmem
   ·rw[Sr]at hi
    obtain⟨hin,hnl,hed⟩:=hi
    rw[Uu listed i (by omega)]at hnl
    have hxi:ys[i]? =some (ys[i]'(by omega)):=Zf (by omega)
    generalize ys[i]'(by omega)=xi at hxi
    have hik:i=k:=by
     have hge:k<=i:=by
      rcases Yn i k with h1|h1
      ·have:=(hL i).2 h1;rw[this]at hnl;cases hnl
      ·exact h1
     rcases Nat.eq_or_lt_of_le hge with e|h1
     ·exact e.symm
     ·exfalso
      obtain⟨o,xo0,ho,hc,_,_,_,_,_,g6⟩:=hop i xi hxi
      have c5:=(VR hc).2.2.2.2
      have hdir:∀q∈xo0.after,listed.getD q false=true:=by
       intro q hq
       rw[c5]at hq
       obtain⟨e,he,rfl⟩:=ZM.1 hq
       obtain⟨he1,he2⟩:=YC.1 he
       exact hed o ho e (by simpa using he1) he2
      rcases g6 k (sure i xi (by omega) hxi k h1)with h2|⟨j,hj,q,hq,hkq⟩
      ·have:=(hL k).1 (hdir k h2);omega
      ·have h3:=(hL j).1 (hdir j hj)
       have h4:=fl.back j q hq k hkq
       omega
    subst hik
    rw[hx]at hxi;cases hxi
    obtain⟨o,xo0,ho,hc,g1,g2,g3,g4,g5,g6⟩:=hop i xo hx
    have c1:=(VR hc).1
    rw[evOper_after E base true xo xo0 _ g1 g2 g3 g4]at hst
    unfold wpOpIn
    rw[ho]
    simp only[]
    have:=evOper_wp E hE base true ops.toList hc (next:=wpAnyIn F n P .any ops Q fuel (listed.setIfInBounds i true)) (Q:=Q) hst hI hsl fun a2 w2 μ2 k1 k2 k3=>by
     refine ih (i+1) _ a2 w2 μ2 s2 (by simpa using hsz) ?_ (by omega) (by omega) (fun q=> ?_) hev k1 k2 (hmn.trans k3)
     ·have:=unl_set ys.length listed i hlt hsz hnk;omega
     ·rw[TB listed i q (by omega),hL q];omega
    simp only[Array.toArray_toList]at this
    rcases this with⟨t1,t2⟩|⟨t1,t2⟩
    ·rw[if_pos t1];exact oper_in hF (UA c1) t2
    ·rw[if_neg (by rw[t1];simp)];exact⟨fun f _=>hF.fn f,t2⟩
  ·have hke:k=ys.length:=by omega
   subst hke
   simp only[List.drop_length,Vi,Za]at hev;subst hev
   exact all_done _ listed a w' (by omega) (fun i hi=>(hL i).2 (by omega)) (hk a w' μ' hI hsl hmn)
theorem draw_ok {P:Program}{E:Oracle}(hE:OracleOk P E)(hmix:P.follows .mixedOrders=true):Rh P E:=by
 intro F n hF O lo base nt rid ops os xs suf hm hfl hcat hsure s s1 s' hd hsuf a w μ hI hsl Q hk
 obtain⟨hclen,hcspec⟩:=close_spec os
 generalize X4 [] os=ys at hclen hcspec hfl hcat
 obtain⟨S,Ft,R,hS0,hSn,hfoot⟩:=run_of0 E base xs s s1 hd
 have fly:=flow_of ys hfl
 have hxy:∀(i:Nat) (xo:XOper),xs[i]? =some xo->ys[i]? =some xo:=fun i xo hi=>by
  rw[hcat,Zy (Zb.1 hi).1];exact hi
 have hyx:∀(i:Nat) (xo:XOper),i<xs.length->ys[i]? =some xo->xs[i]? =some xo:=fun i xo hl hi=>by
  rw[hcat,Zy hl]at hi;exact hi
 have fl:Flow xs:=⟨fun i xo hi=>fly.back i xo (hxy i xo hi),fun i j xi xj d hi hj=>fly.uniq i j xi xj d (hxy _ _ hi) (hxy _ _ hj),fun i j xi xj d hi hj=>fly.order i j xi xj d (hxy _ _ hi) (hxy _ _ hj)⟩
 have tc:=touch_of R hfoot
 obtain⟨hol,hoget⟩:=VO hm
 have hnx:ys.length=ops.size:=by rw[hclen,<-hol];simp
 have hlen:xs.length<=ys.length:=by rw[hcat];simp
 have hdrop:ys.drop xs.length=suf:=by rw[hcat];simp
 have sure:∀(i:Nat) (xo:XOper),xs.length<=i->ys[i]? =some xo->∀k,k<i->k∈xo.after:=fun i xo hl hi k hk=>by
  rw[hcat,ZB hl]at hi
  exact sureFrom_spec suf xs.length hsure (i-xs.length) xo hi k (by omega)
 have hop:OpAt P nt ops ys:=by
  intro i xo hi
  obtain⟨xo0,h0,g1,g2,g3,g4,g5,g6⟩:=hcspec i xo hi
  obtain⟨o,ho,hc⟩:=hoget i xo0 h0
  exact⟨o,xo0,by simpa using ho,hc,g1,g2,g3,g4,g5,g6⟩
 refine wpIn_region_any hmix ?_
 have phase2:=suf_ok (n:=n) (lo:=lo) (base:=base) (O:=O) (Q:=Q) (w:=w) (μ:=μ) (hh:=Xi s.H) (s':=s') hE hF hnx hop fly sure hk
 have main:∀(fuel:Nat) (listed:Array Bool) (a:Act) (w':World) (μ':Nat->Nat) (h:HF),listed.size=ys.length->unl ys.length listed<=fuel->(∀i,listed.getD i false=true->i<xs.length)->
   Part lo nt O xs S Ft (fun i=>listed.getD i false=true) w' μ' h a->
   (∀(i:Nat) (xi:XOper),xs[i]? =some xi->listed.getD i false=true->(∀k∈xi.after,listed.getD k false=true)/\Xe E xi.op=false)->
   Mono O w μ (Xi s.H) w' μ' h->wpAnyIn F n P .any ops Q fuel listed a w':=by
  intro fuel
  induction fuel with
  |zero=>
   intro listed a w' μ' h hsz hun hbl p hcl hmn
   have hall:=unl_zero _ _ (Nat.le_zero.1 hun)
   have hall':∀i,i<xs.length->listed.getD i false=true:=fun i hi=>hall i (by omega)
   obtain⟨h1,h2⟩:=p.full R fl tc xs.length (Zg _) (fun i hi=>⟨fun _=>hi,fun _=>hall' i hi⟩) fun k xk hk hx=>(hcl k xk hx (hall' k hk)).2
   subst h2
   rw[hSn]at h1 hmn
   exact phase2 0 xs.length listed a w' μ' s1 hsz hun (Zg _) hlen (fun i=>⟨hbl i,hall' i⟩) (by rw[hdrop];exact hsuf) (by have:=p.inv;rwa[hSn]at this) h1 hmn
  |succ fuel ih=>
   intro listed a w' μ' h hsz hun hbl p hcl hmn
   have hlt:∀(i:Nat) (xi:XOper),xs[i]? =some xi->i<xs.length:=fun i xi hi=>(Zb.1 hi).1
   have hcl1:∀(i:Nat) (xi:XOper),xs[i]? =some xi->listed.getD i false=true->∀k∈xi.after,listed.getD k false=true:=fun i xi hi hL=>(hcl i xi hi hL).1
   rcases min_unlisted xs.length (fun i=>listed.getD i false)with hall|⟨i0,hi0,hu0,hmin⟩
   ·obtain⟨g1,g2⟩:=p.full R fl tc xs.length (Zg _) (fun i hi=>⟨fun _=>hi,fun _=>hall i hi⟩) fun k xk hk hx=>(hcl k xk hx (hall k hk)).2
    subst g2
    rw[hSn]at g1 hmn
    exact phase2 _ xs.length listed a w' μ' s1 hsz hun (Zg _) hlen (fun i=>⟨hbl i,hall i⟩) (by rw[hdrop];exact hsuf) (by have:=p.inv;rwa[hSn]at this) g1 hmn
   refine⟨fun hr=> ?_,fun i hi=> ?_⟩
   ·exfalso
    have hx:xs[i0]? =some xs[i0]:=Zf hi0
    obtain⟨o,xo0,ho,hc,_,_,_,_,g5,_⟩:=hop i0 _ (hxy _ _ hx)
    have hmem:i0∈Region.ready .any ops listed:=by
     rw[Sr]
     refine⟨by omega,by rw[Uu listed i0 (by omega)];exact hu0,fun o' ho' e he hb=> ?_⟩
     rw[ho]at ho';cases ho'
     have haf:=(VR hc).2.2.2.2
     have :e.on∈xo0.after:=by rw[haf];exact ZM.2 ⟨e,YC.2 ⟨by simpa using he,hb⟩,rfl⟩
     exact hmin _ (fl.back i0 _ hx _ (g5 _ this))
    rw[hr]at hmem;simp at hmem
   ·rw[Sr]at hi
    obtain⟨hin,hnl,hed⟩:=hi
    rw[Uu listed i (by omega)]at hnl
    have hxn:i<ys.length:=by omega
    have hxy':ys[i]? =some ys[i]:=Zf hxn
    generalize ys[i]=xo at hxy'
    obtain⟨o,xo0,ho,hc,g1,g2,g3,g4,g5,g6⟩:=hop i xo hxy'
    obtain⟨c1,c2,c3,c4,c5⟩:=VR hc
    have hnj:¬listed.getD i false=true:=by rw[hnl];simp
    have hdir:∀k∈xo0.after,listed.getD k false=true:=by
     intro k hk
     rw[c5]at hk
     obtain⟨e,he,rfl⟩:=ZM.1 hk
     obtain⟨he1,he2⟩:=YC.1 he
     exact hed o ho e (by simpa using he1) he2
    have haf:∀k∈xo.after,listed.getD k false=true:=by
     intro k hk
     rcases g6 k hk with h1|⟨j,hj,q,hq,hkq⟩
     ·exact hdir k h1
     ·exact hcl1 j q (hyx j q (hbl j (hdir j hj)) hq) (hdir j hj) k hkq
    have hixs:i<xs.length:=by
     rcases Yn i xs.length with h1|h1
     ·exact h1
     ·have:=haf i0 (sure i xo h1 hxy' i0 (by omega))
      rw[this]at hu0;cases hu0
    have hx:=hyx i xo hixs hxy'
    have hun':unl ys.length (listed.setIfInBounds i true)<=fuel:=by
     have:=unl_set ys.length listed i hxn hsz hnl;omega
    have hbl':∀k,(listed.setIfInBounds i true).getD k false=true->k<xs.length:=fun k hk=>by
     rcases(TB listed i k (by omega)).1 hk with h1|rfl
     ·exact hbl k h1
     ·exact hixs
    have hnext:∀(a2:Act) (w2:World) (μ2:Nat->Nat) (h2:HF),Xe E xo.op=false->Part lo nt O xs S Ft (fun k=>listed.getD k false=true\/k=i) w2 μ2 h2 a2->Mono O w' μ' h w2 μ2 h2->
      wpAnyIn F n P .any ops Q fuel (listed.setIfInBounds i true) a2 w2:=by
     intro a2 w2 μ2 h2 hh p2 hm2
     refine ih _ a2 w2 μ2 h2 (by simpa using hsz) hun' hbl' (part_congr ?_ p2) ?_ (hmn.trans hm2)
     ·funext k;exact propext (TB listed i k (by omega)).symm
     ·intro k xk hxk hL
      rcases(TB listed i k (by omega)).1 hL with hL|rfl
      ·exact⟨fun q hq=>(TB listed i q (by omega)).2 (.inl (hcl1 k xk hxk hL q hq)),(hcl k xk hxk hL).2⟩
      ·rw[hx]at hxk;cases hxk
       exact⟨fun q hq=>(TB listed k q (by omega)).2 (.inl (haf q hq)),hh⟩
    unfold wpOpIn
    rw[ho]
    simp only[]
    cases hh:Xe E xo.op with
    |true=>
     obtain⟨hl1,hl2⟩:=R.heap i xo hx hh
     obtain⟨f1,f2⟩:=p.full R fl tc i (by omega) (fun k hk=>⟨fun hL=>by
      by_cases e:k=i
      ·subst e;exact absurd hL hnj
      ·omega,fun hk=>haf k (hl2 k hk)⟩) fun k xk hk hxk=>(hcl k xk hxk (haf k (hl2 k hk))).2
     subst f2
     have hst:=R.step i xo hx
     rw[hh,evOper_after E base true xo xo0 _ g1 g2 g3 g4]at hst
     have:=evOper_wp E hE base true ops.toList hc (next:=wpAnyIn F n P .any ops Q fuel (listed.setIfInBounds i true)) (Q:=Q) hst p.inv f1 fun a2 w2 μ2 k1 k2 k3=>by
      rw[hl1,hSn]at k1 k2 k3
      refine phase2 fuel xs.length _ a2 w2 μ2 s1 (by simpa using hsz) hun' (Zg _) hlen (fun q=>⟨hbl' q,fun hq=>(TB listed i q (by omega)).2 ?_⟩) (by rw[hdrop];exact hsuf) k1 k2 (hmn.trans k3)
      by_cases e:q=i
      ·exact .inr e
      ·exact .inl (haf q (hl2 q (by omega)))
     simp only[Array.toArray_toList]at this
     rcases this with⟨t1,t2⟩|⟨t1,t2⟩
     ·rw[if_pos t1];exact oper_in hF (UA c1) t2
     ·rw[if_neg (by rw[t1];simp)];exact⟨fun f _=>hF.fn f,t2⟩
    |false=>
     have hsl:=p.slots R fl hx hnj haf hcl1
     have hgt:∀t b,xo.guard=some (t,b)->t∈xo.tmps:=by
      intro t b hg;simp[XOper.tmps,hg]
     have hat:∀x∈xo.args,∀t∈x.tmp,t∈xo.tmps:=by
      intro x hx t ht
      simp only[XOper.tmps,Z3,Ya]
      exact .inl ⟨x,hx,ht⟩
     have hdst:dstOk nt xo.dst=true:=by rw[g1,c3];exact c4
     have hod:o.dst=xo.dst:=by rw[g1,c3]
     rcases step_op (R.step i xo hx) hh with⟨s1,s2,s3,s4⟩|⟨s1,vs,r,s2,s3,s4,s5,s6⟩
     ·have hw:=guard_ok hsl ops.toList o.guard xo0.guard c2 false (by rw[<-g4,guard_keep _ _ _ hgt];exact s1) o rfl
      simp only[Array.toArray_toList]at hw
      rw[if_neg (by rw[hw];simp),hod]
      refine⟨fun f _=>hF.fn f,hnext _ w' μ' h hh ?_ (Mono.refl _ _ _ _)⟩
      exact p.add R fl tc hx hnj hcl1 hdst (.tup []) undef [] [] (by rw[s2];rfl) s4 (by simp) ⟨[],rfl,.nil⟩ p.inv (Mono.refl _ _ _ _)
     ·have hw:=guard_ok hsl ops.toList o.guard xo0.guard c2 true (by rw[<-g4,guard_keep _ _ _ hgt];exact s1) o rfl
      simp only[Array.toArray_toList]at hw
      rw[if_pos hw]
      refine oper_in hF (UA c1) ?_
      have hinner:∀(k:Nat) (xk:XOper),k<i->xs[k]? =some xk->Xe E xk.op=false:=fun k xk hk hxk=>R.inner hxk (by omega)
      have hrdl:∀id∈r.rd,id<(S i).H.length:=fun id hid=>by
       obtain⟨b,hb⟩:=evOp_rd E base xo.op vs _ _ r s3 id hid
       simp only[Xi]at hb
       exact(Zb.1 hb).1
      have hloc:XG E base xo.op vs h (S i).H.length=some r:=
       evOp_local E base xo.op vs _ r s3 fun id hid=>p.heap R fl tc hx hnj haf hcl1 hinner id (by rw[s5];exact hid) (hrdl id hid)
      have hargs:Xl (XOpd.eval (WR (S i).T xo.tmps)) xo0.args=some vs:=by
       rw[<-g3,<-s2]
       exact mapO_congr _ fun x hx'=>eval_keep _ _ x fun t ht=>hat x hx' t ht
      have hwrl:∀q∈r.wr,q.1<(S i).H.length/\∃b,h q.1=some b:=fun q hq=>by
       obtain⟨b,hb⟩:=evOp_wr E base xo.op vs _ _ r s3 q hq
       simp only[Xi]at hb
       exact⟨(Zb.1 hb).1,evOp_wr E base xo.op vs _ _ r hloc q hq⟩
      have hnone:r.al≠[]->h (S i).H.length=none:=by
       intro hal
       have h0i:(S 0).H.length<=(S i).H.length:=R.TF 0 i (by omega) (by omega) fun k xk _ hk hx'=>hinner k xk hk hx'
       refine p.none _ h0i fun k hk hLk hr=> ?_
       have hki:k≠i:=fun e=>hnj (e▸hLk)
       rcases Nat.lt_or_gt_of_ne hki with hlt'|hgt
       ·have:=R.TF (k+1) i (by omega) (by omega) fun q xq _ hq hx'=>hinner q xq hq hx'
        omega
       ·have h1:(S (i+1)).H.length=(S i).H.length+r.al.length:=by rw[s4];simp only[];rw[SO,Zm,VS]
        have h2:=R.TF (i+1) k (by omega) (by omega) fun q xq _ hq hx'=>R.inner hx' (by omega)
        have h3:0<r.al.length:=List.length_pos_iff.2 hal
        omega
      rw[<-g2]at c1
      refine evOp_wp E hE base c1 hsl vs hargs r hloc hnone p.inv fun v w2 μ2 k1 k2 k3=> ?_
      rw[hod]
      exact hnext _ w2 μ2 _ hh (p.add R fl tc hx hnj hcl1 hdst r.val v r.wr r.al s4 s6 hwrl k1 k2 k3) k3
 obtain⟨gm,gi⟩:=UL (w':={w with drawn:=w.drawn+1}) hI (Zg _) (fun _ _=>rfl) rfl rfl rfl
 have hslw:=hsl.mono gm
 have hL0:∀i,¬((Array.replicate ops.size false).getD i false=true):=by
  intro i hi
  rw[ZF]at hi
  by_cases h:i<ops.size
  ·simp[h]at hi
  ·simp[h]at hi
 refine main ops.size (Array.replicate ops.size false) a _ μ (Xi s.H) (by simp[hnx]) ?_ (fun i hL=>absurd hL (hL0 i)) ?_ (fun i xi _ hL=>absurd hL (hL0 i)) gm
 ·rw[<-hnx]
  exact ZC (List.length_filter_le _ _) (by simp)
 ·refine⟨hslw.dfr,hslw.sz,fun i xo _ hL=>absurd hL (hL0 i),fun t _ d hd=>hslw.slot t d (by rw[<-hS0];exact hd),gi,fun i _ hL=>absurd hL (hL0 i),fun id _ _=>by rw[hS0],fun k _ hL=>absurd hL (hL0 k),fun id hid _=> ?_⟩
  rw[hS0]at hid
  simp only[Xi]
  exact Ys hid
end Go.Ev
