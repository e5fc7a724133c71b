/- The interpreter of this program: the base oracle and its soundness. -/
import Derived.Test.YtefpgecinlekpaaGreatTabOk
import Derived.Test.YtefpgecinlekpaaGreatEvSort
import Derived.Test.YtefpgecinlekpaaGreatLay
import Derived.Test.YtefpgecinlekpaaGreatQMin
namespace Go.Proofs.YtefpgecinlekpaaGreat
open Go.Ev Go.Num
theorem mix:Tryz.prog.follows .mixedOrders=true:=by kernel_rfl
theorem E00_le (K:Nat):OLe (E00 md) (lift X K (E00 md)):=⟨rfl,(fun _ _ _ h=>by cases h),(fun _ _ _ _ h=>by cases h),rfl⟩
def Bn:Base:=⟨E00 md,X,E00_le⟩
theorem Bn_std:Std Bn:=⟨rfl,fun f xf h=>by
 unfold XV without at h
 cases hb:inN f [150,140]with
 |true=>rw[hb,cond_true]at h;cases h
 |false=>rw[hb,cond_false]at h;exact h⟩
theorem Bn_ok (K n:Nat):OracleOk Tryz.prog (Bn.E K n):=ev_ok mix X X_ok K _ (E00_ok md) n
theorem cmpS_CC {x y:List PL}(hx:isTerm x=true)(hy:isTerm y=true):CC Tryz.prog 134 [.agg x,.agg y] (.one (.int .i64 (cmpS x y))):=by
 obtain⟨a,b,c,d,e1,hm⟩:=WZ hx
 obtain⟨a',b',c',d',e2,hn⟩:=WZ hy
 obtain⟨K,n,h⟩:=sortedCmp_ret Bn_std (x:=a) (y:=b) (z:=c) (u:=d) (x2:=a') (y2:=b') (z2:=c') (u2:=d') hm.1 hn.1
 rw[<-e1,<-e2]at h
 exact((Bn_ok K n).pure _ _ _ h).1
def E0s:Oracle:=⟨md,fun _ _=>none,
 fun f args H=>bif Nat.beq f 150 then S1 args H else bif Nat.beq f 140 then pdqAnsM args H else none,
 fun _ _=>none⟩
theorem cmpT_CC0 {x y:List PL}(hx:isTerm x=true)(hy:isTerm y=true):CC Tryz.prog 134 [.agg x,.agg y] (.one (.int .i64 (VE [] x y))):=cmpS_CC hx hy
theorem cmpT_CCd {lo:PL}{o:List (List Int)}(so:IsO lo o)(ho:Tj o)(hol:o.length<1000000){x y:List PL}(hx:isTerm x=true)(hy:isTerm y=true):CC Tryz.prog 126 [.agg x,.agg y,.one (.ref [lo])] (.one (.int .i64 (VE o x y))):=by
 obtain⟨a,b,c,d,e1,hm⟩:=WZ hx
 obtain⟨a',b',c',d',e2,hn⟩:=WZ hy
 obtain⟨K,n,h⟩:=decCmp_ret Bn_std so ho hol (x:=a) (y:=b) (z:=c) (u:=d) (x2:=a') (y2:=b') (z2:=c') (u2:=d') hm hn
 rw[<-e1,<-e2]at h
 exact((Bn_ok K n).pure _ _ _ h).1
theorem pdqAns_ok {args:List DV}{H:List Blk}{d:DV}{H':List Blk}(h:S1 args H=some (d,H')):CH Tryz.prog 150 args H d H':=by
 unfold S1 at h
 split at h
 ·rename_i i ver n n2 lm fn
  split at h
  ·rename_i o hkey
   obtain⟨hlm,hk⟩:=XA h
   clear h
   split at hk
   ·rename_i b hb
    split at hk
    ·rename_i es hes
     obtain⟨hc,h⟩:=XA hk
     clear hk
     simp only[Zo,YJ]at hc
     obtain⟨⟨⟨⟨⟨⟨⟨⟨c1,c2⟩,c3⟩,c4⟩,c5⟩,c6⟩,c7⟩,c8⟩,c9⟩:=hc
     obtain rfl:=Zj c3
     obtain rfl:=Zj c5
     obtain rfl:=Zj c6
     simp only[Za,Zl]at h
     obtain⟨rfl,rfl⟩:=h
     have ht:Terms es:=ZP.1 c8
     have hlm':lm<4611686018427387904:=by simpa using hlm
     have hn:es.length<1000000:=by simpa using c7
     have irr:∀x∈es,¬VE o x x<0:=fun x hx=>cmpT_irr
     have tr:∀x∈es,∀y∈es,∀z∈es,VE o x y<0->VE o y z<0->VE o x z<0:=fun x hx y hy z hz=>cmpT_tr (ht x hx) (ht y hy) (ht z hz)
     have ntr:∀x∈es,∀y∈es,∀z∈es,¬VE o x y<0->¬VE o y z<0->¬VE o x z<0:=fun x hx y hy z hz=>cmpT_ntr (ht x hx) (ht y hy) (ht z hz)
     have tot:∀x∈es,∀y∈es,¬VE o x y<0->¬VE o y x<0->x=y:=fun x hx y hy h1 h2=>noDup_spec c9 x hx y hy (cmpT_tot (ht x hx) (ht y hy) h1 h2)
     unfold keyOf at hkey
     split at hkey
     ·rename_i g
      obtain⟨hg,hk⟩:=Xk hkey
      subst hk
      obtain rfl:=Zj hg
      exact pdq_CH sortT (k:=12) Tryz.isAgg63 Tryz.sizeOf63 rfl rfl (ent_of Tryz.func134 (by kernel_rfl) rfl) [] (VE []) H i b es (Ut [] es) lm hb c1 c2 (Zj c4) (unPc_inv hes) hlm' (by omega)
       (fun x hx y hy=>cmpT_CC0 (ht x hx) (ht y hy)) irr tr ntr tot (Tb es) (Sd ht)
     ·rename_i g j vj
      obtain⟨hg,hk⟩:=XA hkey
      clear hkey
      rw[Zo,YJ]at hg
      obtain⟨hg,hji⟩:=hg
      obtain rfl:=Zj hg
      have hji':j≠i:=fun e=>by rw[e,YH]at hji;cases hji
      split at hk
      ·rename_i bj hbj
       obtain⟨hv,hk2⟩:=XA hk
       clear hk
       rw[Zo,YJ]at hv
       obtain⟨hmp,hv⟩:=hv
       obtain rfl:=Zj hv
       split at hk2
       ·rename_i lo hch
        obtain⟨so,ho,hol⟩:=ordOf_spec hk2
        exact pdq_CHg sortT (k:=12) Tryz.isAgg63 Tryz.sizeOf63 rfl (ent_of Tryz.func126 (by kernel_rfl) rfl) [.ref [lo]] (.one (.fn _ [.ptr j bj.ver 0 0])) (VE o) H i b es (Ut o es) lm hb c1 c2 (Zj c4) (unPc_inv hes)
         (fun w O μ v hI hr=>cap_ptr (by rfl) hji' hb hbj hmp (cs:=[lo]) (rest:=[]) hch w O μ v hI c2 hr) hlm' (by omega)
         (fun x hx y hy=>cmpT_CCd so ho hol (ht x hx) (ht y hy)) irr tr ntr tot (Tb es) (Sd ht)
       ·cases hk2
      ·cases hk
     ·cases hkey
    ·cases hk
   ·cases hk
  ·cases h
 ·rename_i lm g cs
  obtain⟨hlm,h⟩:=Xk h
  cases h
  exact pdq_nil sortT rfl lm _ H
 ·cases h
theorem pdq_ent:Ent Tryz.prog 150:=ent_of Tryz.func150 (by kernel_rfl) rfl
theorem cmpM_CC {x y:List PL}(hx:VP x=true)(hy:VP y=true):CC Tryz.prog 95 [.agg x,.agg y] (.one (.int .i64 (cmpC x y))):=by
 obtain⟨e1,h1⟩:=W4 hx
 obtain⟨e2,h2⟩:=W4 hy
 obtain⟨K,n,h⟩:=TT Bn_std h1.1 h2.1
 rw[<-e1,<-e2]at h
 exact((Bn_ok K n).pure _ _ _ h).1
theorem pdqAnsM_ok {args:List DV}{H:List Blk}{d:DV}{H':List Blk}(h:pdqAnsM args H=some (d,H')):CH Tryz.prog 140 args H d H':=by
 unfold pdqAnsM at h
 split at h
 ·rename_i i ver n n2 lm g
  obtain⟨hg,hk⟩:=XA h
  clear h
  rw[Zo]at hg
  obtain⟨hg,hlm⟩:=hg
  obtain rfl:=Zj hg
  split at hk
  ·rename_i b hb
   split at hk
   ·rename_i es hes
    obtain⟨hc,h⟩:=Xk hk
    clear hk
    simp only[Zo,YJ]at hc
    obtain⟨⟨⟨⟨⟨⟨⟨c1,c2⟩,c3⟩,c4⟩,c5⟩,c6⟩,c7⟩,c8⟩:=hc
    obtain rfl:=Zj c3
    obtain rfl:=Zj c5
    obtain rfl:=Zj c6
    simp only[Zl]at h
    obtain⟨rfl,rfl⟩:=h
    have ht:Monos es:=ZP.1 c8
    have hlm':lm<4611686018427387904:=by simpa using hlm
    have hn:es.length<1000000:=by simpa using c7
    exact pdq_CH Tz (k:=8) Tryz.isAgg51 Tryz.sizeOf51 rfl rfl (ent_of Tryz.func95 (by kernel_rfl) rfl) [] cmpC H i b es (SU es) lm hb c1 c2 (Zj c4) (unPc_inv hes) hlm' (by omega)
     (fun x hx y hy=>cmpM_CC (ht x hx) (ht y hy)) (fun _ _=>cmpC_irr) (fun x hx y hy z hz=>cmpC_tr (ht x hx) (ht y hy) (ht z hz)) (fun x hx y hy z hz=>cmpC_ntr (ht x hx) (ht y hy) (ht z hz)) (fun x hx y hy=>cmpC_tot (ht x hx) (ht y hy)) (sortCe_perm ht) (sortCe_sorted ht)
   ·cases hk
  ·cases hk
 ·rename_i lm g
  simp only[Za,Zl]at h
  obtain⟨rfl,rfl⟩:=h
  exact pdq_nil Tz rfl lm _ H
 ·cases h
theorem pdqM_ent:Ent Tryz.prog 140:=ent_of Tryz.func140 (by kernel_rfl) rfl
theorem E0s_ok:OracleOk Tryz.prog E0s:=by
 refine⟨(fun _ _ _ h=>by cases h),fun f args H d H' h=> ?_,(fun _ _ _ h=>by cases h)⟩
 simp only[E0s]at h
 cases hf:Nat.beq f 150 with
 |true=>
  obtain rfl:=Zj hf
  exact⟨pdqAns_ok h,pdq_ent⟩
 |false=>
  rw[hf,cond_false]at h
  obtain⟨hf,h⟩:=XA h
  obtain rfl:=Zj hf
  exact⟨pdqAnsM_ok h,pdqM_ent⟩
theorem XV_ok:∀f xf,XV f=some xf->FunOk Tryz.prog f xf:=without_ok _ X_ok
def Es:Oracle:=ev E0s XV 1000 16
theorem Es_ok:OracleOk Tryz.prog Es:=ev_ok mix XV XV_ok 1000 _ E0s_ok 16
def itCap:List PL->Option (List (List PV))
 |[.ref [.int .i64 (.ofNat n)]]=>bif Nat.blt n 1000000 then some (prs n)else none
 |_=>none
def E0:Oracle:=⟨md,fun _ _=>none,
 fun f args H=>bif Nat.beq f 91 then evRmapF Es 1000 rmS args H
  else E0s.heap f args H,
 fun f caps=>bif Nat.beq f 99 then itCap caps else none⟩
theorem E0_ok:OracleOk Tryz.prog E0:=by
 refine⟨(fun _ _ _ h=>by cases h),fun f args H d H' h=> ?_,fun f caps xss h=> ?_⟩
 ·simp only[E0]at h
  cases hf:Nat.beq f 91 with
  |true=>
   obtain rfl:=Zj hf
   rw[hf,cond_true]at h
   exact rmapF_CH Es Es_ok (draw_ok Es_ok mix) 1000 rmS_ok args H d H' h
  |false=>
   rw[hf,cond_false]at h
   exact E0s_ok.heap _ _ _ _ _ h
 ·simp only[E0]at h
  obtain⟨hf,h⟩:=XA h
  obtain rfl:=Zj hf
  clear hf
  unfold itCap at h
  split at h
  ·rename_i n _
   obtain⟨hn,rfl⟩:=Xk h
   refine⟨pairs_iter n (by simpa using hn),ent_of Tryz.func99 (by kernel_rfl) rfl⟩
  ·cases h
theorem E0_le (K:Nat):OLe E0 (lift XV K E0):=by
 refine⟨rfl,(fun _ _ _ h=>by cases h),fun f a H r h=> ?_,rfl⟩
 have h':=h
 simp only[E0]at h
 cases hf:Nat.beq f 91 with
 |true=>
  obtain rfl:=Zj hf
  exact h'
 |false=>
  rw[hf,cond_false]at h
  simp only[E0s]at h
  cases hf:Nat.beq f 150 with
  |true=>
   obtain rfl:=Zj hf
   exact h'
  |false=>
   rw[hf,cond_false]at h
   obtain⟨hf,h⟩:=XA h
   obtain rfl:=Zj hf
   exact h'
def BB:Base:=⟨E0,XV,E0_le⟩
theorem BB_stdB:StdB BB:=⟨⟨⟨rfl,fun _ _ h=>h⟩,fun _ _ _ h=>h⟩,fun n hn=>by
 show(bif Nat.blt n 1000000 then some (prs n)else none)=some (prs n)
 rw[blt_t hn];rfl⟩
theorem BB_stdM:StdM BB:=⟨BB_stdB,fun _ _ _ h=>h⟩
theorem BB_ok (K n:Nat):OracleOk Tryz.prog (BB.E K n):=ev_ok mix XV XV_ok K _ E0_ok n
end Go.Proofs.YtefpgecinlekpaaGreat
