/- Every operation but a call: what the model computes stands for what the interpreter computes. (Printed by gen_opsim.py.) -/
import Derived.Test.YtefpgecinlekpaaGreatEvCall
import Derived.Test.YtefpgecinlekpaaGreatEvMaps
namespace Go.Ev
section
variable {P:Program}{O:BS}{w:World}{μ:Nat->Nat}{h:HF}{n:Nat}
theorem map0 {α β:Type}{f:α->Option β}{ds:List β}(h:Xl f []=some ds):ds=[]:=by simpa[Xl]using h.symm
theorem map_cons {α β:Type}{f:α->Option β}{x:α}{xs:List α}{ds:List β}(h:Xl f (x::xs)=some ds):∃a as,f x=some a/\Xl f xs=some as/\ds=a::as:=by
 simp only[Xl]at h
 cases hx:f x with
 |none=>simp[hx]at h
 |some a=>
  simp only[hx]at h
  cases hxs:Xl f xs with
  |none=>simp[hxs]at h
  |some as=>simp only[hxs,Za]at h;exact⟨a,as,rfl,rfl,h.symm⟩
theorem map1 {α β:Type}{f:α->Option β}{x:α}{ds:List β}(h:Xl f [x]=some ds):∃a,f x=some a/\ds=[a]:=by
 obtain⟨a,as,h1,h2,rfl⟩:=map_cons h
 exact⟨a,h1,by rw[map0 h2]⟩
theorem map2 {α β:Type}{f:α->Option β}{x y:α}{ds:List β}(h:Xl f [x,y]=some ds):∃a b,f x=some a/\f y=some b/\ds=[a,b]:=by
 obtain⟨a,as,h1,h2,rfl⟩:=map_cons h
 obtain⟨b,h3,rfl⟩:=map1 h2
 exact⟨a,b,h1,h3,rfl⟩
theorem map3 {α β:Type}{f:α->Option β}{x y z:α}{ds:List β}(h:Xl f [x,y,z]=some ds):∃a b c,f x=some a/\f y=some b/\f z=some c/\ds=[a,b,c]:=by
 obtain⟨a,as,h1,h2,rfl⟩:=map_cons h
 obtain⟨b,c,h3,h4,rfl⟩:=map2 h2
 exact⟨a,b,c,h1,h3,h4,rfl⟩
theorem VN {α:Type}(g:α->Operand)(T:List (Nat×DV))(ρ:Operand->Value)(hev:∀x xo d,Xm x=some xo->xo.eval T=some d->Xo w O μ h (ρ x) d):
  ∀(ps:List α) (xs:List XOpd) (ds:List DV),Xl (fun p=>Xm (g p)) ps=some xs->Xl (XOpd.eval T) xs=some ds->All2 (fun p d=>Xo w O μ h (ρ (g p)) d) ps ds
 |[],xs,ds,h1,h2=>by rw[map0 h1]at h2;rw[map0 h2];exact .nil
 |p::ps,xs,ds,h1,h2=>by
  obtain⟨x,xs',hx,hxs,rfl⟩:=map_cons h1
  obtain⟨d,ds',hd,hds,rfl⟩:=map_cons h2
  exact .cons (hev _ _ _ hx hd) (VN g T ρ hev ps xs' ds' hxs hds)
theorem Wa {t:TypeId}{s:Nat}(hs:XQ P t=some s):∃i,P.info? t=some i/\i.size=s:=by
 unfold XQ at hs
 cases hi:P.info? t with
 |none=>simp[hi]at hs
 |some i=>exact⟨i,rfl,by simpa[hi]using hs⟩
theorem bytesOfT_info {t:TypeId}{s:Nat}(hs:bytesOfT P t=some s):∃i,P.info? t=some i/\i.bytes=s:=by
 unfold bytesOfT at hs
 cases hi:P.info? t with
 |none=>simp[hi]at hs
 |some i=>exact⟨i,rfl,by simpa[hi]using hs⟩
theorem builtin_sim (E:Oracle)(base:Nat)(b:Builtin)(tys:Array TypeId)(args:Array Operand)(o:Oper)(hop:o.op=.call ⟨.builtin b,args,tys⟩)(op:XOp)(hb:Xu P b tys=some op)(ρ:Operand->Value)
  (ds:List DV) (hds:All2 (fun p d=>Xo w O μ h (ρ p) d) args.toList ds) (r:Res) (hr:XG E base op ds h n=some r) (hn:r.al≠[]->h n=none) (hI:HInv w O μ h):WO O w μ h n ((execOp ρ o).run P w) r:=by
 have one:∀d,ds=[d]->∃x,args=#[x]/\Xo w O μ h (ρ x) d:=by
  intro d hd;subst hd
  generalize hl:args.toList=l at hds
  cases hds with
  |cons h1 h2=>cases h2;exact⟨_,by apply Array.ext';simpa using hl,h1⟩
 have two:∀d1 d2,ds=[d1,d2]->∃x y,args=#[x,y]/\Xo w O μ h (ρ x) d1/\Xo w O μ h (ρ y) d2:=by
  intro d1 d2 hd;subst hd
  generalize hl:args.toList=l at hds
  cases hds with
  |cons h1 h2=>cases h2 with
   |cons h3 h4=>cases h4;exact⟨_,_,by apply Array.ext';simpa using hl,h1,h3⟩
 cases b with
 |len=>
  simp only[Xu]at hb
  cases ht:tys[0]? with
  |none=>simp[ht]at hb
  |some t=>
  simp only[ht]at hb
  split at hb<;>simp only[Za,reduceCtorEq]at hb<;>subst hb
  ·rename_i e hu
   have hd:∃d,ds=[d]:=by
    simp only[XG]at hr;unfold TQ at hr
    split at hr<;>simp at hr<;>exact⟨_,rfl⟩
   obtain⟨d,rfl⟩:=hd
   obtain⟨x,rfl,hx⟩:=one d rfl
   exact sim_len t x ρ o tys hop e ht hu d hx r hr hI
  ·rename_i m e hu
   have hd:∃d,ds=[d]:=by
    simp only[XG]at hr;unfold opLenA at hr
    split at hr<;>simp at hr;exact⟨_,rfl⟩
   obtain⟨d,rfl⟩:=hd
   obtain⟨x,rfl,hx⟩:=one d rfl
   exact sim_lenA t m e x ρ o tys hop ht hu d r hr hI
  ·rename_i kt e hu
   have hd:∃d,ds=[d]:=by
    simp only[XG]at hr;unfold U6 at hr
    split at hr
    ·exact⟨_,rfl⟩
    ·simp at hr
   obtain⟨d,rfl⟩:=hd
   obtain⟨x,rfl,hx⟩:=one d rfl
   exact sim_lenMap t kt e x ρ o tys hop ht hu d hx r hr hI
 |append=>
  simp only[Xu]at hb
  split at hb
  ·rename_i t u h1
   split at hb
   ·rename_i htu
    have htu:t=u:=by simpa using htu
    subst htu
    split at hb
    ·rename_i e hu
     split at hb
     ·rename_i z by' hz hby
      split at hb<;>simp only[Za,reduceCtorEq]at hb
      rename_i hzp
      subst hb
      obtain⟨i,hi,rfl⟩:=bytesOfT_info hby
      have hd:∃d1 d2,ds=[d1,d2]:=by
       simp only[XG]at hr;unfold Wk at hr
       split at hr
       ·exact⟨_,_,rfl⟩
       ·simp at hr
      obtain⟨d1,d2,rfl⟩:=hd
      obtain⟨x,y,rfl,hx,hy⟩:=two d1 d2 rfl
      have htys:tys=#[t,t]:=by apply Array.ext';simpa using h1
      subst htys
      exact sim_append t e z i base x y ρ o hop hu hz hi hzp d1 d2 hx hy r hr hn hI
     ·simp at hb
    ·simp at hb
   ·simp at hb
  ·simp at hb
 |copy=>
  simp only[Xu]at hb
  split at hb
  ·rename_i t u h1
   split at hb
   ·rename_i htu
    have htu:t=u:=by simpa using htu
    subst htu
    split at hb
    ·rename_i e hu
     split at hb<;>simp only[Za,reduceCtorEq]at hb
     rename_i m hz
     subst hb
     obtain⟨i,hi,hsz⟩:=Wa hz
     have hd:∃d1 d2,ds=[d1,d2]:=by
      simp only[XG]at hr;unfold S5 at hr
      split at hr
      ·exact⟨_,_,rfl⟩
      ·simp at hr
     obtain⟨d1,d2,rfl⟩:=hd
     obtain⟨x,y,rfl,hx,hy⟩:=two d1 d2 rfl
     have htys:tys=#[t,t]:=by apply Array.ext';simpa using h1
     subst htys
     exact sim_copy t e i base x y ρ o hop hu hi d1 d2 hx hy r (by rw[hsz];exact hr) hI
    ·simp at hb
   ·simp at hb
  ·simp at hb
 |max=>simp only[Xu,Za]at hb;subst hb;exact sim_max false args ρ o tys hop ds hds r hr hI
 |min=>simp only[Xu,Za]at hb;subst hb;exact sim_max true args ρ o tys hop ds hds r hr hI
 |cap=>simp[Xu]at hb
 |clear=>
  simp only[Xu]at hb
  split at hb
  ·rename_i t h1
   split at hb
   ·rename_i e hu
    split at hb
    ·rename_i z hz
     split at hb<;>simp only[Za,reduceCtorEq]at hb
     rename_i hzp
     subst hb
     have hd:∃d,ds=[d]:=by
      simp only[XG]at hr;unfold TR at hr
      split at hr
      ·exact⟨_,rfl⟩
      ·simp at hr
     obtain⟨d,rfl⟩:=hd
     obtain⟨x,rfl,hx⟩:=one d rfl
     have htys:tys=#[t]:=by apply Array.ext';simpa using h1
     subst htys
     exact sim_clear t e z base x ρ o hop hu hz hzp d hx r hr hI
    ·simp at hb
   ·simp at hb
  ·simp at hb
 |close=>simp[Xu]at hb
 |complex=>simp[Xu]at hb
 |delete=>simp[Xu]at hb
 |imag=>simp[Xu]at hb
 |make=>simp[Xu]at hb
 |new=>simp[Xu]at hb
 |panic=>simp[Xu]at hb
 |print=>simp[Xu]at hb
 |println=>simp[Xu]at hb
 |real=>simp[Xu]at hb
 |recover=>simp[Xu]at hb
 |unsafeAdd=>simp[Xu]at hb
 |unsafeSlice=>simp[Xu]at hb
 |unsafeSliceData=>simp[Xu]at hb
 |unsafeString=>simp[Xu]at hb
 |unsafeStringData=>simp[Xu]at hb
 |unsafeSizeof=>simp[Xu]at hb
 |unsafeAlignof=>simp[Xu]at hb
 |unsafeOffsetof=>simp[Xu]at hb
theorem evOp_sim (E:Oracle)(base:Nat){o:Oper}{xop:XOp}{xargs:List XOpd}(hc:Xv P o.op=some (xop,xargs))(T:List (Nat×DV))(ρ:Operand->Value)
  (hev:∀x xo d,Xm x=some xo->xo.eval T=some d->Xo w O μ h (ρ x) d) (ds:List DV) (hT:Xl (XOpd.eval T) xargs=some ds) (r:Res) (hr:XG E base xop ds h n=some r)
  (hnc:∀f,xop≠.call f) (hnv:xop≠.callV) (hn:r.al≠[]->h n=none) (hI:HInv w O μ h):WO O w μ h n ((execOp ρ o).run P w) r:=by
 cases hop:o.op with
 |move x=>
  simp only[Xv,hop]at hc
  cases hx:Xm x with
  |none=>simp[hx]at hc
  |some x'=>
  simp only[hx,Za,Zl]at hc
  obtain⟨rfl,rfl⟩:=hc
  obtain⟨d,hd,rfl⟩:=map1 hT
  exact sim_move x ρ o (.inl hop) d (hev _ _ _ hx hd) r hr hI
 |assign x=>
  simp only[Xv,hop]at hc
  cases hx:Xm x with
  |none=>simp[hx]at hc
  |some x'=>
  simp only[hx,Za,Zl]at hc
  obtain⟨rfl,rfl⟩:=hc
  obtain⟨d,hd,rfl⟩:=map1 hT
  exact sim_move x ρ o (.inr hop) d (hev _ _ _ hx hd) r hr hI
 |nilCheck x=>
  simp only[Xv,hop]at hc
  cases hx:Xm x with
  |none=>simp[hx]at hc
  |some x'=>
  simp only[hx,Za,Zl]at hc
  obtain⟨rfl,rfl⟩:=hc
  obtain⟨d,hd,rfl⟩:=map1 hT
  exact sim_nilCheck x ρ o hop d (hev _ _ _ hx hd) r hr hI
 |pick c x y=>
  simp only[Xv,hop]at hc
  cases hc0:Xm c with
  |none=>simp[hc0]at hc
  |some c'=>
  cases hx:Xm x with
  |none=>simp[hx]at hc
  |some x'=>
  cases hy:Xm y with
  |none=>simp[hy]at hc
  |some y'=>
  simp only[hc0,hx,hy,Za,Zl]at hc
  obtain⟨rfl,rfl⟩:=hc
  obtain⟨d1,d2,d3,hd1,hd2,hd3,rfl⟩:=map3 hT
  exact sim_pick c x y ρ o hop d1 d2 d3 (hev _ _ _ hc0 hd1) (hev _ _ _ hx hd2) (hev _ _ _ hy hd3) r hr hI
 |box t x=>
  simp only[Xv,hop]at hc
  cases hx:Xm x with
  |none=>simp[hx]at hc
  |some x'=>
  simp only[hx,Za,Zl]at hc
  obtain⟨rfl,rfl⟩:=hc
  obtain⟨d,hd,rfl⟩:=map1 hT
  have hal:r.al≠[]:=by simp only[XG,opBox]at hr;split at hr<;>simp at hr;subst hr;simp
  exact sim_box t x ρ o hop d (hev _ _ _ hx hd) r hr (hn hal) hI
 |alloc t=>
  simp only[Xv,hop]at hc
  cases hz:zeroOf P t with
  |none=>simp[hz]at hc
  |some z=>
  simp only[hz,Za,Zl]at hc
  obtain⟨rfl,rfl⟩:=hc
  obtain rfl:=map0 hT
  have hal:r.al≠[]:=by simp only[XG,TS,Za]at hr;subst hr;simp
  exact sim_alloc t z ρ o hop hz r hr (hn hal) hI
 |load t x=>
  simp only[Xv,hop]at hc
  cases ha:aggT P t with
  |none=>simp[ha]at hc
  |some ag=>
  cases hs:XQ P t with
  |none=>simp[hs]at hc
  |some s=>
  cases hx:Xm x with
  |none=>simp[hx]at hc
  |some x'=>
  simp only[ha,hs,hx,Za,Zl]at hc
  obtain⟨rfl,rfl⟩:=hc
  obtain⟨d,hd,rfl⟩:=map1 hT
  obtain⟨i,hi,rfl⟩:=Wa hs
  exact sim_load t i ag x ρ o hop ha hi d (hev _ _ _ hx hd) r hr hI
 |store t x y=>
  simp only[Xv,hop]at hc
  cases hs:XQ P t with
  |none=>simp[hs]at hc
  |some s=>
  cases hx:Xm x with
  |none=>simp[hx]at hc
  |some x'=>
  cases hy:Xm y with
  |none=>simp[hy]at hc
  |some y'=>
  simp only[hs,hx,hy,Za,Zl]at hc
  obtain⟨rfl,rfl⟩:=hc
  obtain⟨d1,d2,hd1,hd2,rfl⟩:=map2 hT
  obtain⟨i,hi,rfl⟩:=Wa hs
  exact sim_store t i base x y ρ o hop hi d1 d2 (hev _ _ _ hx hd1) (hev _ _ _ hy hd2) r hr hI
 |unOp op t x=>
  simp only[Xv,hop]at hc
  cases hx:Xm x with
  |none=>simp[hx]at hc
  |some x'=>
  simp only[hx,Za,Zl]at hc
  obtain⟨rfl,rfl⟩:=hc
  obtain⟨d,hd,rfl⟩:=map1 hT
  exact sim_un op t x ρ o hop d (hev _ _ _ hx hd) r hr hI
 |extract x k=>
  simp only[Xv,hop]at hc
  cases hx:Xm x with
  |none=>simp[hx]at hc
  |some x'=>
  simp only[hx,Za,Zl]at hc
  obtain⟨rfl,rfl⟩:=hc
  obtain⟨d,hd,rfl⟩:=map1 hT
  exact sim_extract k x ρ o hop d (hev _ _ _ hx hd) r hr hI
 |convert s d x=>
  simp only[Xv,hop]at hc
  split at hc<;>simp only[Za,Zl,reduceCtorEq]at hc
  rename_i u k x' hu hk hx
  obtain⟨rfl,rfl⟩:=hc
  obtain⟨dd,hd,rfl⟩:=map1 hT
  exact sim_conv s d k x ρ o hop ⟨u,hu⟩ hk dd (hev _ _ _ hx hd) r hr hI
 |fieldAddr s x f=>
  simp only[Xv,hop]at hc
  split at hc
  ·rename_i fs hu
   cases hf:fs[f]? with
   |none=>simp[hf]at hc
   |some fl=>
   simp only[hf]at hc
   split at hc<;>simp only[Za,Zl,reduceCtorEq]at hc
   rename_i k x' hs hx
   obtain⟨rfl,rfl⟩:=hc
   obtain⟨d,hd,rfl⟩:=map1 hT
   obtain⟨i,hi,hsz⟩:=Wa hs
   exact sim_fieldAddr s fs f fl i x ρ o hop hu hf hi (by omega) d (hev _ _ _ hx hd) r hr hI
  ·simp at hc
 |field s x f=>
  simp only[Xv,hop]at hc
  split at hc
  ·rename_i fs hu
   cases hf:fs[f]? with
   |none=>simp[hf]at hc
   |some fl=>
   simp only[hf]at hc
   split at hc<;>simp only[Za,Zl,reduceCtorEq]at hc
   rename_i ag sz x' ha hs hx
   obtain⟨rfl,rfl⟩:=hc
   obtain⟨d,hd,rfl⟩:=map1 hT
   obtain⟨i,hi,rfl⟩:=Wa hs
   exact sim_field s fs f fl i ag x ρ o hop hu hf ha hi d (hev _ _ _ hx hd) r hr hI
  ·simp at hc
 |indexAddr t x i=>
  simp only[Xv,hop]at hc
  split at hc
  ·rename_i e x' i' hu hx hi
   cases hs:XQ P e with
   |none=>simp[hs]at hc
   |some s=>
   simp only[hs,Za,Zl]at hc
   obtain⟨rfl,rfl⟩:=hc
   obtain⟨d1,d2,hd1,hd2,rfl⟩:=map2 hT
   obtain⟨ti,hti,rfl⟩:=Wa hs
   exact sim_indexS t e ti x i ρ o hop hu hti d1 d2 (hev _ _ _ hx hd1) (hev _ _ _ hi hd2) r hr hI
  ·rename_i m e x' i' hu hx hi
   cases hs:XQ P e with
   |none=>simp[hs]at hc
   |some s=>
   simp only[hs,Za,Zl]at hc
   obtain⟨rfl,rfl⟩:=hc
   obtain⟨d1,d2,hd1,hd2,rfl⟩:=map2 hT
   obtain⟨ti,hti,rfl⟩:=Wa hs
   exact sim_indexA t e m ti x i ρ o hop hu hti d1 d2 (hev _ _ _ hx hd1) (hev _ _ _ hi hd2) r hr hI
  ·simp at hc
 |index t x i=>
  simp only[Xv,hop]at hc
  split at hc
  ·rename_i x' i' hu hx hi
   simp only[Za,Zl]at hc
   obtain⟨rfl,rfl⟩:=hc
   obtain⟨d1,d2,hd1,hd2,rfl⟩:=map2 hT
   exact sim_indexStr t x i ρ o hop hu d1 d2 (hev _ _ _ hx hd1) (hev _ _ _ hi hd2) r hr hI
  ·rename_i m e x' i' hu hx hi
   split at hc<;>simp only[Za,Zl,reduceCtorEq]at hc
   rename_i ag s ha hs
   obtain⟨rfl,rfl⟩:=hc
   obtain⟨d1,d2,hd1,hd2,rfl⟩:=map2 hT
   obtain⟨ti,hti,rfl⟩:=Wa hs
   exact sim_indexV t e m ti ag x i ρ o hop hu ha hti d1 d2 (hev _ _ _ hx hd1) (hev _ _ _ hi hd2) r hr hI
  ·simp at hc
 |build t parts=>
  simp only[Xv,hop]at hc
  split at hc
  ·rename_i z xs hz hxs
   split at hc
   ·rename_i fs hu
    split at hc
    ·rename_i places hpl
     split at hc<;>simp only[Za,Zl,reduceCtorEq]at hc
     rename_i pl hpp
     obtain⟨rfl,rfl⟩:=hc
     exact sim_build t z pl parts ρ o hop hz (.inl ⟨fs,places,hu,hpl,hpp⟩) ds (VN (fun p:Nat×Operand=>p.2) T ρ hev _ _ _ hxs hT) r hr hI
    ·simp at hc
   ·rename_i m e hu
    cases hs:XQ P e with
    |none=>simp[hs]at hc
    |some s=>
    simp only[hs,Za,Zl]at hc
    obtain⟨rfl,rfl⟩:=hc
    exact sim_build t z _ parts ρ o hop hz (.inr ⟨m,e,s,hu,hs,rfl⟩) ds (VN (fun p:Nat×Operand=>p.2) T ρ hev _ _ _ hxs hT) r hr hI
   ·simp at hc
  ·simp at hc
 |buildSlice t len parts=>
  simp only[Xv,hop]at hc
  split at hc
  ·rename_i e hu
   split at hc
   ·rename_i z xs hz hxs
    split at hc<;>simp only[Za,Zl,reduceCtorEq]at hc
    rename_i hcond
    rw[Zo]at hcond
    obtain⟨rfl,rfl⟩:=hc
    have hal:r.al≠[]:=by simp only[XG,WW]at hr;split at hr<;>simp at hr;subst hr;simp
    exact sim_buildSlice t e z len parts ρ o hop hu hz (by simpa using hcond.1) (Wb hcond.2) ds (VN (fun p:Nat×Operand=>p.2) T ρ hev _ _ _ hxs hT) r hr (hn hal) hI
   ·simp at hc
  ·simp at hc
 |makeSlice t l c=>
  simp only[Xv,hop]at hc
  split at hc
  ·rename_i e hu
   split at hc
   ·rename_i z b l' c' hz hb hl hcc
    split at hc<;>simp only[Za,Zl,reduceCtorEq]at hc
    rename_i hcond
    obtain⟨rfl,rfl⟩:=hc
    obtain⟨d1,d2,hd1,hd2,rfl⟩:=map2 hT
    obtain⟨i,hi,rfl⟩:=bytesOfT_info hb
    have hal:r.al≠[]:=by
     simp only[XG]at hr
     unfold Vf at hr
     split at hr
     ·obtain⟨_,rfl⟩:=Xk hr;simp
     ·simp at hr
    exact sim_makeSlice t e z i l c ρ o hop hu hz hi hcond d1 d2 (hev _ _ _ hl hd1) (hev _ _ _ hcc hd2) r hr (hn hal) hI
   ·simp at hc
  ·simp at hc
 |slice t x lo hi mx=>
  cases mx with
  |some mx=>
   cases lo with
   |none=>simp[Xv,hop]at hc
   |some lo=>
   cases hi with
   |none=>simp[Xv,hop]at hc
   |some hi=>
   simp only[Xv,hop]at hc
   split at hc
   ·rename_i e hu
    split at hc
    ·rename_i x' l' h' m' s hx hl hh hm hs
     simp only[Za,Zl]at hc
     obtain⟨rfl,rfl⟩:=hc
     obtain⟨d,ds1,hd,hT1,rfl⟩:=map_cons hT
     obtain⟨d1,ds2,hd1,hT2,rfl⟩:=map_cons hT1
     obtain⟨d2,d3,hd2,hd3,rfl⟩:=map2 hT2
     obtain⟨ti,hti,rfl⟩:=Wa hs
     exact sim_slice3 t e ti x lo hi mx ρ o hop hu hti d d1 d2 d3 (hev _ _ _ hx hd) (hev _ _ _ hl hd1) (hev _ _ _ hh hd2) (hev _ _ _ hm hd3) r hr hI
    ·simp at hc
   ·simp at hc
  |none=>
  simp only[Xv,hop]at hc
  split at hc
  ·rename_i e hu
   split at hc
   ·rename_i x' l' h' s hx hl hh hs
    simp only[Za,Zl]at hc
    obtain⟨rfl,rfl⟩:=hc
    obtain⟨d,ds',hd,hds',rfl⟩:=map_cons hT
    obtain⟨ti,hti,rfl⟩:=Wa hs
    have hl2:Xl (fun p=>Xm p) (lo.toList++hi.toList)=some (l'++h'):=by
     cases lo with
     |none=>
      simp only[Ui,Za]at hl;subst hl
      cases hi with
      |none=>simp only[Ui,Za]at hh;subst hh;rfl
      |some hv=>
       simp only[Ui]at hh
       cases hq:Xm hv with
       |none=>simp[hq]at hh
       |some q=>simp only[hq,Za]at hh;subst hh;simp[Xl,hq]
     |some lv=>
      simp only[Ui]at hl
      cases hq1:Xm lv with
      |none=>simp[hq1]at hl
      |some q1=>
      simp only[hq1,Za]at hl;subst hl
      cases hi with
      |none=>simp only[Ui,Za]at hh;subst hh;simp[Xl,hq1]
      |some hv=>
       simp only[Ui]at hh
       cases hq:Xm hv with
       |none=>simp[hq]at hh
       |some q=>simp only[hq,Za]at hh;subst hh;simp[Xl,hq,hq1]
    exact sim_slice t e ti x lo hi ρ o hop hu hti d ds' (hev _ _ _ hx hd) (VN (fun p=>p) T ρ hev _ _ _ hl2 hds') r hr hI
   ·simp at hc
  ·simp at hc
 |makeFunc fn first caps=>
  cases fn with
  |func f=>
   simp only[Xv,hop]at hc
   cases hemp:first.isEmpty with
   |false=>
    simp only[hemp,Zs,if_false]at hc
    cases hemp2:caps.isEmpty with
    |false=>simp[hemp2]at hc
    |true=>
    simp only[hemp2,if_true]at hc
    split at hc<;>simp only[Za,Zl,reduceCtorEq]at hc
    rename_i cs hcs
    obtain⟨rfl,rfl⟩:=hc
    have hf:caps=#[]:=by simpa using hemp2
    subst hf
    have hb:Nat.blt (f+bnd) bnd=false:=by
     cases hb:Nat.blt (f+bnd) bnd with
     |false=>rfl
     |true=>have:=TL hb;omega
    exact sim_makeFunc (f+bnd) first ρ o (.inr ⟨hb,by rw[Z6];exact hop⟩) ds (VN (fun p=>p) T ρ hev _ _ _ hcs hT) r hr hI
   |true=>
   simp only[hemp,if_true]at hc
   split at hc
   ·rename_i cs hcs
    split at hc<;>simp only[Za,Zl,reduceCtorEq]at hc
    rename_i hb
    obtain⟨rfl,rfl⟩:=hc
    have hf:first=#[]:=by simpa using hemp
    subst hf
    exact sim_makeFunc f caps ρ o (.inl ⟨hb,hop⟩) ds (VN (fun p=>p) T ρ hev _ _ _ hcs hT) r hr hI
   ·simp at hc
  |method _=>simp[Xv,hop]at hc
  |methodOf _ _=>simp[Xv,hop]at hc
  |via _ _ _ _=>simp[Xv,hop]at hc
  |yield _=>simp[Xv,hop]at hc
 |binOp op t x y u=>
  simp only[Xv,hop]at hc
  split at hc
  ·rename_i x' y' hx hy
   split at hc
   ·rename_i k hu
    simp only[Za,Zl]at hc
    obtain⟨rfl,rfl⟩:=hc
    obtain⟨d1,d2,hd1,hd2,rfl⟩:=map2 hT
    exact sim_bin op t u x y ρ o hop d1 d2 (hev _ _ _ hx hd1) (hev _ _ _ hy hd2) r hr hI
   ·rename_i hu
    split at hc<;>simp only[Za,Zl,reduceCtorEq]at hc<;>obtain⟨rfl,rfl⟩:=hc<;>obtain⟨d1,d2,hd1,hd2,rfl⟩:=map2 hT
    ·exact sim_binB false t u x y ρ o hop hu d1 d2 (hev _ _ _ hx hd1) (hev _ _ _ hy hd2) r hr hI
    ·exact sim_binB true t u x y ρ o hop hu d1 d2 (hev _ _ _ hx hd1) (hev _ _ _ hy hd2) r hr hI
   ·rename_i e hu
    split at hc<;>simp only[Za,Zl,reduceCtorEq]at hc<;>obtain⟨rfl,rfl⟩:=hc<;>obtain⟨d1,d2,hd1,hd2,rfl⟩:=map2 hT
    ·exact sim_binNil false t u e x y ρ o hop hu d1 d2 (hev _ _ _ hx hd1) (hev _ _ _ hy hd2) r hr hI
    ·exact sim_binNil true t u e x y ρ o hop hu d1 d2 (hev _ _ _ hx hd1) (hev _ _ _ hy hd2) r hr hI
   ·rename_i m e hu
    split at hc
    ·rename_i k hk hs hg
     obtain⟨i,hi,hsz⟩:=Wa hs
     split at hc<;>simp only[Za,Zl,reduceCtorEq]at hc<;>obtain⟨rfl,rfl⟩:=hc<;>obtain⟨d1,d2,hd1,hd2,rfl⟩:=map2 hT
     ·exact sim_binAgg false t u e k m i x y ρ o hop hu hk hi hsz hg d1 d2 (hev _ _ _ hx hd1) (hev _ _ _ hy hd2) r hr hI
     ·exact sim_binAgg true t u e k m i x y ρ o hop hu hk hi hsz hg d1 d2 (hev _ _ _ hx hd1) (hev _ _ _ hy hd2) r hr hI
    ·simp at hc
   ·simp at hc
  ·simp at hc
 |call c=>
  obtain⟨callee,args,tys⟩:=c
  simp only[Xv,hop]at hc
  cases hxs:SK args with
  |none=>simp[hxs]at hc
  |some xs=>
  simp only[hxs]at hc
  have hargs:∀ds,Xl (XOpd.eval T) xs=some ds->All2 (fun p d=>Xo w O μ h (ρ p) d) args.toList ds:=fun ds hds=>VN (fun p=>p) T ρ hev _ _ _ hxs hds
  cases callee with
  |invoke _ _=>simp at hc
  |value x=>
   cases x with
   |func f=>simp only[Za,Zl]at hc;exact absurd hc.1.symm (hnc f)
   |tmp q=>simp only[Xm,Za,Zl]at hc;exact absurd hc.1.symm hnv
   |const q=>
    simp only at hc
    cases hq:Xm (.const q)with
    |none=>simp[hq]at hc
    |some q'=>simp only[hq,Za,Zl]at hc;exact absurd hc.1.symm hnv
   |global q=>simp[Xm]at hc
  |builtin b=>
   simp only at hc
   cases hb:Xu P b tys with
   |none=>simp[hb]at hc
   |some op=>
   simp only[hb,Za,Zl]at hc
   obtain⟨rfl,rfl⟩:=hc
   have ha:=hargs ds hT
   exact builtin_sim E base b tys args o hop op hb ρ ds ha r hr hn hI
 |makeMap t rv=>
  cases rv with
  |some _=>simp[Xv,hop]at hc
  |none=>
  simp only[Xv,hop]at hc
  split at hc
  ·split at hc<;>simp only[Za,Zl,reduceCtorEq]at hc
   obtain⟨rfl,rfl⟩:=hc
   rw[map0 hT]at hr
   have hal:r.al≠[]:=by
    simp only[XG,UI,Za]at hr;subst hr;simp
   exact sim_makeMap t _ _ ρ o hop r hr (hn hal) hI
  ·simp at hc
 |lookup t x i ok=>
  simp only[Xv,hop]at hc
  split at hc
  ·rename_i kt e hu
   split at hc<;>simp only[Za,Zl,reduceCtorEq]at hc
   rename_i m kk a z x' i' hk hzk hz hx hi
   obtain⟨rfl,rfl⟩:=hc
   obtain⟨d1,d2,hd1,hd2,rfl⟩:=map2 hT
   obtain⟨te,ti,g1,g2,g3,g4⟩:=keyOfT_spec hk
   exact sim_lookup t kt e te m kk ti a ok z x i ρ o hop hu g1 g2 g3 g4 hzk hz d1 d2 (hev _ _ _ hx hd1) (hev _ _ _ hi hd2) r hr hI
  ·simp at hc
 |mapUpdate t m k x=>
  simp only[Xv,hop]at hc
  split at hc
  ·rename_i kt e hu
   split at hc<;>simp only[Za,Zl,reduceCtorEq]at hc
   rename_i ml kk a sz m' k' x' hk hzk hsz hm hkk hx
   obtain⟨rfl,rfl⟩:=hc
   obtain⟨d1,ds1,hd1,hT1,rfl⟩:=map_cons hT
   obtain⟨d2,d3,hd2,hd3,rfl⟩:=map2 hT1
   obtain⟨te,ti,g1,g2,g3,g4⟩:=keyOfT_spec hk
   exact sim_mapUpdate t kt e te ml sz kk ti a m k x ρ o hop hu g1 g2 g3 g4 d1 d2 d3 (hev _ _ _ hm hd1) (hev _ _ _ hkk hd2) (hev _ _ _ hx hd3) r hr hI
  ·simp at hc
 |insert _ _ _ _=>simp[Xv,hop]at hc
 |ready _=>simp[Xv,hop]at hc
 |waits _=>simp[Xv,hop]at hc
 |sliceToArrayPointer _ _=>simp[Xv,hop]at hc
 |makeInterface _ _=>simp[Xv,hop]at hc
 |makeChan _ _=>simp[Xv,hop]at hc
 |mapEntry _ _ _=>simp[Xv,hop]at hc
 |entryStore _ _ _ _=>simp[Xv,hop]at hc
 |range _ _=>simp[Xv,hop]at hc
 |next _ _=>simp[Xv,hop]at hc
 |entry _=>simp[Xv,hop]at hc
 |typeAssert _ _ _ _=>simp[Xv,hop]at hc
 |go _=>simp[Xv,hop]at hc
 |defer _=>simp[Xv,hop]at hc
 |panic _=>simp[Xv,hop]at hc
 |send _ _=>simp[Xv,hop]at hc
 |recv _ _ _=>simp[Xv,hop]at hc
 |select _ _=>simp[Xv,hop]at hc
end
end Go.Ev
