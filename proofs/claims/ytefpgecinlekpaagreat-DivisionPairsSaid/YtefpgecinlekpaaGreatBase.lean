/- Monomials sorted: what the library's sort answers, Clone, SortFunc. -/
import Derived.Test.YtefpgecinlekpaaGreatQBas
import Derived.Test.YtefpgecinlekpaaGreatTabOk
import Derived.Test.YtefpgecinlekpaaGreatEvSort
import Derived.Test.YtefpgecinlekpaaGreatLay
namespace Go.Num
def insMo (m:List Nat):List (List Nat)->List (List Nat)
 |[]=>[m]
 |n::l=>if XS n m=.negSucc 0 then n::insMo m l else m::n::l
def sortMo:List (List Nat)->List (List Nat)
 |[]=>[]
 |m::l=>insMo m (sortMo l)
theorem insMo_perm (m:List Nat):∀l,(insMo m l).Perm (m::l)
 |[]=>.refl _
 |n::l=>by
  unfold insMo
  split
  ·exact((insMo_perm m l).cons n).trans (.swap ..)
  ·exact .refl _
theorem UZ:∀l,(sortMo l).Perm l
 |[]=>.refl _
 |m::l=>(insMo_perm m _).trans ((UZ l).cons m)
end Go.Num
namespace Go.Proofs.YtefpgecinlekpaaGreat
open Go.Ev Go.Num
def monD (c:List PL):List Nat:=(Xm natO c).getD []
def VW (c:List PL):Bool:=Nat.beq c.length 8&&(Xm natO c).isSome
theorem WR {c:List PL}(h:VW c=true):c=mo (monD c)/\Xx (monD c):=by
 unfold VW at h
 rw[Zo]at h
 cases hm:Xm natO c with
 |none=>rw[hm]at h;cases h.2
 |some m=>
  obtain⟨h1,h2⟩:=natO_mo hm
  have e:monD c=m:=by unfold monD;rw[hm];rfl
  rw[e]
  refine⟨h1,?_,h2⟩
  have:=Zi h.1
  rw[h1,Xr]at this;exact this
theorem isMono_mo {m:List Nat}(h:Xx m):VW (mo m)=true/\monD (mo m)=m:=by
 have h1:=mapO_mo h.2
 have h2:Nat.beq (mo m).length 8=true:=by rw[Xr,h.1];rfl
 exact⟨by unfold VW;rw[h1,h2];rfl,by unfold monD;rw[h1];rfl⟩
def cmpC (x y:List PL):Int:=XS (monD x) (monD y)
theorem cmpC_irr {x:List PL}:¬cmpC x x<0:=by unfold cmpC;rw[Tw];decide
theorem cmpL_neg {m n:List Nat}:XS m n<0↔XS m n=.negSucc 0:=by
 rcases WA m n with h|h|h<;>rw[h]<;>decide
theorem cmpC_tr {x y z:List PL}(hx:VW x=true)(hy:VW y=true)(hz:VW z=true)(h1:cmpC x y<0)(h2:cmpC y z<0):cmpC x z<0:=by
 have l1:=(WR hx).2.1
 have l2:=(WR hy).2.1
 have l3:=(WR hz).2.1
 unfold cmpC at *
 rw[cmpL_neg,UK]at *
 exact UJ (by omega) (by omega) h2 h1
theorem cmpC_tot {x y:List PL}(hx:VW x=true)(hy:VW y=true)(h1:¬cmpC x y<0)(h2:¬cmpC y x<0):x=y:=by
 obtain⟨e1,l1,-⟩:=WR hx
 obtain⟨e2,l2,-⟩:=WR hy
 unfold cmpC at *
 rw[cmpL_neg]at h1 h2
 rw[UK]at h2
 rcases WA (monD x) (monD y)with h|h|h
 ·exact absurd h h2
 ·exact absurd h h1
 ·rw[e1,e2,UL (by omega) h]
theorem cmpC_ntr {x y z:List PL}(hx:VW x=true)(hy:VW y=true)(hz:VW z=true)(h1:¬cmpC x y<0)(h2:¬cmpC y z<0):¬cmpC x z<0:=by
 intro h3
 by_cases h4:cmpC y x<0
 ·exact h2 (cmpC_tr hy hx hz h4 h3)
 ·exact h2 (by rw[<-cmpC_tot hx hy h1 h4];exact h3)
def sortCe (es:List (List PL)):List (List PL):=(sortMo (es.map monD)).map mo
abbrev Monos (es:List (List PL)):Prop:=∀c∈es,VW c=true
theorem mo_monD {es:List (List PL)}(h:Monos es):(es.map monD).map mo=es:=by
 rw[List.map_map]
 conv=>rhs;rw[<-List.map_id es]
 exact List.map_congr_left fun c hc=>(WR (h c hc)).1.symm
theorem sortCe_perm {es:List (List PL)}(h:Monos es):(sortCe es).Perm es:=by
 have:=(UZ (es.map monD)).map mo
 rwa[mo_monD h]at this
theorem insMo_sorted {m:List Nat}(hm:m.length=8):∀{l:List (List Nat)},(∀n∈l,n.length=8)->l.Pairwise (fun x y=>¬XS y x=.negSucc 0)->(insMo m l).Pairwise fun x y=>¬XS y x=.negSucc 0
 |[],_,_=>by simp[insMo]
 |n::l,h8,h=>by
  have hn:=h8 n (Zh ..)
  have hl:∀x∈l,x.length=8:=fun x hx=>h8 x (Zc _ hx)
  obtain⟨p1,p2⟩:=Zt.1 h
  unfold insMo
  split
  ·rename_i h1
   refine Zt.2 ⟨fun x hx=> ?_,insMo_sorted hm hl p2⟩
   rcases Zj.1 ((insMo_perm m l).mem_iff.1 hx)with rfl|hx
   ·intro h2
    rw[UK]at h1 h2
    have:=UJ (by omega) (by omega) h1 h2
    rw[Tw]at this;simp at this
   ·exact p1 x hx
  ·rename_i h1
   refine Zt.2 ⟨fun x hx=> ?_,h⟩
   rcases Zj.1 hx with rfl|hx
   ·exact h1
   ·intro h2
    have hx8:=hl x hx
    rcases WA n m with h3|h3|h3
    ·rw[UK]at h2
     have:=UJ (by omega) (by omega) h3 h2
     exact p1 x hx ((UK n x).2 this)
    ·exact h1 h3
    ·have:=UL (by omega) h3
     subst this
     exact p1 x hx h2
theorem sortMo_sorted:∀{l:List (List Nat)},(∀n∈l,n.length=8)->(sortMo l).Pairwise fun x y=>¬XS y x=.negSucc 0
 |[],_=>.nil
 |m::l,h=>insMo_sorted (h m (Zh ..)) (fun n hn=>h n (Zc _ ((UZ l).mem_iff.1 hn))) (sortMo_sorted fun x hx=>h x (Zc _ hx))
theorem sortCe_sorted {es:List (List PL)}(h:Monos es):(sortCe es).Pairwise fun x y=>¬cmpC y x<0:=by
 unfold sortCe
 have h8:∀n∈es.map monD,Xx n:=fun n hn=>by
  obtain⟨c,hc,rfl⟩:=ZU.1 hn
  exact(WR (h c hc)).2
 have hs:=sortMo_sorted (l:=es.map monD) fun n hn=>(h8 n hn).1
 rw[List.pairwise_map]
 refine hs.imp_of_mem fun{x y} hx hy hn=> ?_
 unfold cmpC
 rw[(isMono_mo (h8 x ((UZ _).mem_iff.1 hx))).2,(isMono_mo (h8 y ((UZ _).mem_iff.1 hy))).2,cmpL_neg]
 exact hn
def pdqAnsM (args:List DV)(H:List Blk):Option (DV×List Blk):=
 match args with
 |[.one (.own i ver 0 n),.one (.p (.int .i64 (.ofNat 0))),.one (.p (.int .i64 (.ofNat n2))),.one (.p (.int .i64 (.ofNat lm))),.one (.p (.fn g []))]=>
  bif Nat.beq g 95&&Nat.blt lm 4611686018427387904 then
   match H[i]? with
   |some b=>match Xm (Xm unP) b.ch with
    |some es=>bif !b.mp&& !b.fz&&Nat.beq ver b.ver&&Nat.beq b.sz 8&&Nat.beq n es.length&&Nat.beq n2 es.length&&Nat.blt es.length 1000000&&es.all VW then some (.tup [],H.set i {b with ch:=(sortCe es).map (·.map .p)})else none
    |none=>none
   |none=>none
  else none
 |[.one (.p .nilS),.one (.p (.int .i64 (.ofNat 0))),.one (.p (.int .i64 (.ofNat 0))),.one (.p (.int .i64 (.ofNat lm))),.one (.p (.fn _ []))]=>some (.tup [],H)
 |_=>none
theorem mix:Tryz.prog.follows .mixedOrders=true:=by kernel_rfl
theorem E00_le (K:Nat):OLe (E00 md) (lift X K (E00 md)):=⟨rfl,(fun _ _ _ h=>by cases h),(fun _ _ _ _ h=>by cases h),rfl⟩
def Bn:Base:=⟨E00 md,X,E00_le⟩
theorem Bn_std:Std Bn:=⟨rfl,fun f xf h=>by
 unfold XV without at h
 cases hb:inN f [150,140]with
 |true=>rw[hb,cond_true]at h;cases h
 |false=>rw[hb,cond_false]at h;exact h⟩
theorem Bn_ok (K n:Nat):OracleOk Tryz.prog (Bn.E K n):=ev_ok mix X X_ok K _ (E00_ok md) n
theorem cmpS_CC {x y:List PL}(hx:isTerm x=true)(hy:isTerm y=true):CC Tryz.prog 134 [.agg x,.agg y] (.one (.int .i64 (cmpS x y))):=by
 obtain⟨a,b,c,d,e1,hm⟩:=WQ hx
 obtain⟨a',b',c',d',e2,hn⟩:=WQ hy
 obtain⟨K,n,h⟩:=sortedCmp_ret Bn_std (x:=a) (y:=b) (z:=c) (u:=d) (x2:=a') (y2:=b') (z2:=c') (u2:=d') hm.1 hn.1
 rw[<-e1,<-e2]at h
 exact((Bn_ok K n).pure _ _ _ h).1
def E0s:Oracle:=⟨md,fun _ _=>none,
 fun f args H=>bif Nat.beq f 150 then SU args H else bif Nat.beq f 140 then pdqAnsM args H else none,
 fun _ _=>none⟩
theorem cmpT_CC0 {x y:List PL}(hx:isTerm x=true)(hy:isTerm y=true):CC Tryz.prog 134 [.agg x,.agg y] (.one (.int .i64 (Vx [] x y))):=cmpS_CC hx hy
theorem cmpT_CCd {lo:PL}{o:List (List Int)}(so:IsO lo o)(ho:V9 o)(hol:o.length<1000000){x y:List PL}(hx:isTerm x=true)(hy:isTerm y=true):CC Tryz.prog 126 [.agg x,.agg y,.one (.ref [lo])] (.one (.int .i64 (Vx o x y))):=by
 obtain⟨a,b,c,d,e1,hm⟩:=WQ hx
 obtain⟨a',b',c',d',e2,hn⟩:=WQ hy
 obtain⟨K,n,h⟩:=decCmp_ret Bn_std so ho hol (x:=a) (y:=b) (z:=c) (u:=d) (x2:=a') (y2:=b') (z2:=c') (u2:=d') hm hn
 rw[<-e1,<-e2]at h
 exact((Bn_ok K n).pure _ _ _ h).1
theorem pdqAns_ok {args:List DV}{H:List Blk}{d:DV}{H':List Blk}(h:SU args H=some (d,H')):CH Tryz.prog 150 args H d H':=by
 unfold SU at h
 split at h
 ·rename_i i ver n n2 lm fn
  split at h
  ·rename_i o hkey
   obtain⟨hlm,hk⟩:=Xz h
   clear h
   split at hk
   ·rename_i b hb
    split at hk
    ·rename_i es hes
     obtain⟨hc,h⟩:=Xz hk
     clear hk
     simp only[Zo,YA]at hc
     obtain⟨⟨⟨⟨⟨⟨⟨⟨c1,c2⟩,c3⟩,c4⟩,c5⟩,c6⟩,c7⟩,c8⟩,c9⟩:=hc
     obtain rfl:=Zi c3
     obtain rfl:=Zi c5
     obtain rfl:=Zi c6
     simp only[Za,Zl]at h
     obtain⟨rfl,rfl⟩:=h
     have ht:Terms es:=ZS.1 c8
     have hlm':lm<4611686018427387904:=by simpa using hlm
     have hn:es.length<1000000:=by simpa using c7
     have irr:∀x∈es,¬Vx o x x<0:=fun x hx=>cmpT_irr
     have tr:∀x∈es,∀y∈es,∀z∈es,Vx o x y<0->Vx o y z<0->Vx o x z<0:=fun x hx y hy z hz=>cmpT_tr (ht x hx) (ht y hy) (ht z hz)
     have ntr:∀x∈es,∀y∈es,∀z∈es,¬Vx o x y<0->¬Vx o y z<0->¬Vx o x z<0:=fun x hx y hy z hz=>cmpT_ntr (ht x hx) (ht y hy) (ht z hz)
     have tot:∀x∈es,∀y∈es,¬Vx o x y<0->¬Vx o y x<0->x=y:=fun x hx y hy h1 h2=>noDup_spec c9 x hx y hy (cmpT_tot (ht x hx) (ht y hy) h1 h2)
     unfold keyOf at hkey
     split at hkey
     ·rename_i g
      obtain⟨hg,hk⟩:=Xk hkey
      subst hk
      obtain rfl:=Zi hg
      exact pdq_CH sortT (k:=12) Tryz.isAgg63 Tryz.sizeOf63 rfl rfl (ent_of Tryz.func134 (by kernel_rfl) rfl) [] (Vx []) H i b es (Uq [] es) lm hb c1 c2 (Zi c4) (unPc_inv hes) hlm' (by omega)
       (fun x hx y hy=>cmpT_CC0 (ht x hx) (ht y hy)) irr tr ntr tot (U7 es) (Se ht)
     ·rename_i g j vj
      obtain⟨hg,hk⟩:=Xz hkey
      clear hkey
      rw[Zo,YA]at hg
      obtain⟨hg,hji⟩:=hg
      obtain rfl:=Zi hg
      have hji':j≠i:=fun e=>by rw[e,YJ]at hji;cases hji
      split at hk
      ·rename_i bj hbj
       obtain⟨hv,hk2⟩:=Xz hk
       clear hk
       rw[Zo,YA]at hv
       obtain⟨hmp,hv⟩:=hv
       obtain rfl:=Zi hv
       split at hk2
       ·rename_i lo hch
        obtain⟨so,ho,hol⟩:=ordOf_spec hk2
        exact pdq_CHg sortT (k:=12) Tryz.isAgg63 Tryz.sizeOf63 rfl (ent_of Tryz.func126 (by kernel_rfl) rfl) [.ref [lo]] (.one (.fn _ [.ptr j bj.ver 0 0])) (Vx o) H i b es (Uq o es) lm hb c1 c2 (Zi c4) (unPc_inv hes)
         (fun w O μ v hI hr=>cap_ptr (by rfl) hji' hb hbj hmp (cs:=[lo]) (rest:=[]) hch w O μ v hI c2 hr) hlm' (by omega)
         (fun x hx y hy=>cmpT_CCd so ho hol (ht x hx) (ht y hy)) irr tr ntr tot (U7 es) (Se ht)
       ·cases hk2
      ·cases hk
     ·cases hkey
    ·cases hk
   ·cases hk
  ·cases h
 ·rename_i lm g cs
  obtain⟨hlm,h⟩:=Xk h
  cases h
  exact pdq_nil sortT rfl lm _ H
 ·cases h
theorem pdq_ent:Ent Tryz.prog 150:=ent_of Tryz.func150 (by kernel_rfl) rfl
theorem cmpM_CC {x y:List PL}(hx:VW x=true)(hy:VW y=true):CC Tryz.prog 95 [.agg x,.agg y] (.one (.int .i64 (cmpC x y))):=by
 obtain⟨e1,h1⟩:=WR hx
 obtain⟨e2,h2⟩:=WR hy
 obtain⟨K,n,h⟩:=TX Bn_std h1.1 h2.1
 rw[<-e1,<-e2]at h
 exact((Bn_ok K n).pure _ _ _ h).1
theorem pdqAnsM_ok {args:List DV}{H:List Blk}{d:DV}{H':List Blk}(h:pdqAnsM args H=some (d,H')):CH Tryz.prog 140 args H d H':=by
 unfold pdqAnsM at h
 split at h
 ·rename_i i ver n n2 lm g
  obtain⟨hg,hk⟩:=Xz h
  clear h
  rw[Zo]at hg
  obtain⟨hg,hlm⟩:=hg
  obtain rfl:=Zi hg
  split at hk
  ·rename_i b hb
   split at hk
   ·rename_i es hes
    obtain⟨hc,h⟩:=Xk hk
    clear hk
    simp only[Zo,YA]at hc
    obtain⟨⟨⟨⟨⟨⟨⟨c1,c2⟩,c3⟩,c4⟩,c5⟩,c6⟩,c7⟩,c8⟩:=hc
    obtain rfl:=Zi c3
    obtain rfl:=Zi c5
    obtain rfl:=Zi c6
    simp only[Zl]at h
    obtain⟨rfl,rfl⟩:=h
    have ht:Monos es:=ZS.1 c8
    have hlm':lm<4611686018427387904:=by simpa using hlm
    have hn:es.length<1000000:=by simpa using c7
    exact pdq_CH Ty (k:=8) Tryz.isAgg51 Tryz.sizeOf51 rfl rfl (ent_of Tryz.func95 (by kernel_rfl) rfl) [] cmpC H i b es (sortCe es) lm hb c1 c2 (Zi c4) (unPc_inv hes) hlm' (by omega)
     (fun x hx y hy=>cmpM_CC (ht x hx) (ht y hy)) (fun _ _=>cmpC_irr) (fun x hx y hy z hz=>cmpC_tr (ht x hx) (ht y hy) (ht z hz)) (fun x hx y hy z hz=>cmpC_ntr (ht x hx) (ht y hy) (ht z hz)) (fun x hx y hy=>cmpC_tot (ht x hx) (ht y hy)) (sortCe_perm ht) (sortCe_sorted ht)
   ·cases hk
  ·cases hk
 ·rename_i lm g
  simp only[Za,Zl]at h
  obtain⟨rfl,rfl⟩:=h
  exact pdq_nil Ty rfl lm _ H
 ·cases h
theorem pdqM_ent:Ent Tryz.prog 140:=ent_of Tryz.func140 (by kernel_rfl) rfl
theorem E0s_ok:OracleOk Tryz.prog E0s:=by
 refine⟨(fun _ _ _ h=>by cases h),fun f args H d H' h=> ?_,(fun _ _ _ h=>by cases h)⟩
 simp only[E0s]at h
 cases hf:Nat.beq f 150 with
 |true=>
  obtain rfl:=Zi hf
  exact⟨pdqAns_ok h,pdq_ent⟩
 |false=>
  rw[hf,cond_false]at h
  obtain⟨hf,h⟩:=Xz h
  obtain rfl:=Zi hf
  exact⟨pdqAnsM_ok h,pdqM_ent⟩
theorem XV_ok:∀f xf,XV f=some xf->FunOk Tryz.prog f xf:=without_ok _ X_ok
def Es:Oracle:=ev E0s XV 1000 16
theorem Es_ok:OracleOk Tryz.prog Es:=ev_ok mix XV XV_ok 1000 _ E0s_ok 16
def itCap:List PL->Option (List (List PV))
 |[.ref [.int .i64 (.ofNat n)]]=>bif Nat.blt n 1000000 then some (prs n)else none
 |_=>none
def E0:Oracle:=⟨md,fun _ _=>none,
 fun f args H=>bif Nat.beq f 91 then evRmapF Es 1000 rmS args H
  else E0s.heap f args H,
 fun f caps=>bif Nat.beq f 99 then itCap caps else none⟩
theorem E0_ok:OracleOk Tryz.prog E0:=by
 refine⟨(fun _ _ _ h=>by cases h),fun f args H d H' h=> ?_,fun f caps xss h=> ?_⟩
 ·simp only[E0]at h
  cases hf:Nat.beq f 91 with
  |true=>
   obtain rfl:=Zi hf
   rw[hf,cond_true]at h
   exact rmapF_CH Es Es_ok (draw_ok Es_ok mix) 1000 rmS_ok args H d H' h
  |false=>
   rw[hf,cond_false]at h
   exact E0s_ok.heap _ _ _ _ _ h
 ·simp only[E0]at h
  obtain⟨hf,h⟩:=Xz h
  obtain rfl:=Zi hf
  clear hf
  unfold itCap at h
  split at h
  ·rename_i n _
   obtain⟨hn,rfl⟩:=Xk h
   refine⟨pairs_iter n (by simpa using hn),ent_of Tryz.func99 (by kernel_rfl) rfl⟩
  ·cases h
theorem E0_le (K:Nat):OLe E0 (lift XV K E0):=by
 refine⟨rfl,(fun _ _ _ h=>by cases h),fun f a H r h=> ?_,rfl⟩
 have h':=h
 simp only[E0]at h
 cases hf:Nat.beq f 91 with
 |true=>
  obtain rfl:=Zi hf
  exact h'
 |false=>
  rw[hf,cond_false]at h
  simp only[E0s]at h
  cases hf:Nat.beq f 150 with
  |true=>
   obtain rfl:=Zi hf
   exact h'
  |false=>
   rw[hf,cond_false]at h
   obtain⟨hf,h⟩:=Xz h
   obtain rfl:=Zi hf
   exact h'
def BB:Base:=⟨E0,XV,E0_le⟩
theorem BB_stdB:StdB BB:=⟨⟨⟨rfl,fun _ _ h=>h⟩,fun _ _ _ h=>h⟩,fun n hn=>by
 show(bif Nat.blt n 1000000 then some (prs n)else none)=some (prs n)
 rw[blt_t hn];rfl⟩
theorem BB_ok (K n:Nat):OracleOk Tryz.prog (BB.E K n):=ev_ok mix XV XV_ok K _ E0_ok n
end Go.Proofs.YtefpgecinlekpaaGreat
