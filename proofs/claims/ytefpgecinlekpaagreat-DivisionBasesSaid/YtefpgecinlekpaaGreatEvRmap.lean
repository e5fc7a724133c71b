/- A range over a map: every order of the entries is looked at. -/
import Derived.Test.YtefpgecinlekpaaGreatEvTop
import Derived.Maps.RangeRun
namespace Go.Ev
open Go.RowKit
structure RM where
 m:Nat
 m2:Nat
 it:Nat
 nx:Nat
 ok:Nat
 en:Nat
 b:Nat
 b2:Nat
 klen:Nat
 tail:List XOper
 rb:XCode
 pre0:XCode
 pre1:XCode
 post:XCode
 ntmps:Nat
 results:List (Nat×Option (Bool×Nat))
def picks {α:Type}:List α->List (α×List α)
 |[]=>[]
 |x::xs=>(x,xs)::(picks xs).map fun p=>(p.1,x::p.2)
def itOk (it iid:Nat)(s:St):Bool:=
 (match Xf s.T it with
  |some (.one (.ptr i 0 0 0))=>Nat.beq i iid
  |_=>false)&&
 match s.H[iid]? with
  |some b=>Nat.beq b.ver 0&&Nat.beq b.sz 0
  |none=>false
def rmRound (E:Oracle)(K:Nat)(rm:RM)(iid:Nat)(s:St)(c:List DL):Option St:=
 match Vi E 0 rm.tail ⟨(rm.en,.tup [.agg (c.take rm.klen),.agg (c.drop rm.klen)])::(rm.ok,.one (.p (.bool true)))::(rm.nx,.tup [.one (.p (.bool true)),.agg (c.take rm.klen),.agg (c.drop rm.klen)])::s.T,s.H⟩with
 |some s1=>
  match Xp E K 0 rm.rb s1 with
  |some (.normal,s2)=>bif itOk rm.it iid s2 then some s2 else none
  |_=>none
 |none=>none
def finals (E:Oracle)(K:Nat)(rm:RM)(iid:Nat):Nat->List (List DL)->St->Option (List St)
 |_,[],s=>some [s]
 |0,_::_,_=>none
 |k+1,c::cs,s=>
  match Xl (fun p=>match rmRound E K rm iid s p.1 with
   |some s'=>finals E K rm iid k p.2 s'
   |none=>none) (picks (c::cs))with
  |some ls=>some ls.flatten
  |none=>none
theorem picks_mem {α:Type}:∀(l:List α) (i:Nat) (x:α),l[i]? =some x->(x,l.eraseIdx i)∈picks l
 |[],i,x,h=>by simp at h
 |y::l,0,x,h=>by simp at h;subst h;simp[picks]
 |y::l,i+1,x,h=>by
  simp only[picks,Zk,ZM]
  exact .inr ⟨(x,l.eraseIdx i),picks_mem l i x (by simpa using h),by simp⟩
section
variable {P:Program}{O:BS}
theorem V7 {F:Fence}(hF:Vc F){n:Nat}{w w':World}{ops:Array Oper}{Q:Exit->Act->World->Prop}{a:Act}{o:Oper}{rest:List Oper}(hg:o.guard=none)(hnd:∀c,o.op≠.defer c)(v:Value)(hrun:(execOp a.eval o).run P w=.ok (.value v) w')
  (h:wpListIn F n P ops Q rest (a.put o.dst v) w'):wpListIn F n P ops Q (o::rest) a w:=by
 refine wpListIn_plain hg fun K hK=>oper_in hF hnd ?_
 unfold Oper.wp;rw[hrun];exact hK _ _ h
structure RMOps (P:Program)(nt:Nat)(rm:RM)(o2a o2b o3a o3b o4:Oper)(tl:List Oper)(rb:Code):Prop where
 a2:o2a.dst=some rm.m2/\o2a.op=.move (.tmp rm.m)/\o2a.guard=none
 b2:∃mt,o2b.dst=some rm.it/\o2b.op=.range mt (.tmp rm.m2)/\o2b.guard=none/\∃kt e,P.underlying mt=some (.map kt e)
 a3:o3a.dst=some rm.nx/\o3a.op=.next (.tmp rm.it) false/\o3a.guard=none
 b3:o3b.dst=some rm.ok/\o3b.op=.extract (.tmp rm.nx) 0/\o3b.guard=none
 a4:o4.dst=some rm.en/\o4.op=.entry (.tmp rm.it)/\o4.guard=none
 tail:Xl (Vp P nt (o4::tl)) tl=some rm.tail
 body:Xz P nt rb=some rm.rb.erase
 lt:rm.m2<nt/\rm.it<nt/\rm.nx<nt/\rm.ok<nt/\rm.en<nt
 ne:rm.nx≠rm.it/\rm.ok≠rm.it/\rm.m2≠rm.it
def rmLoop (rm:RM)(i3 i4:Nat)(o3a o3b o4:Oper)(tl:List Oper)(rb:Code):Code:=
 (Code.region i3 #[o3a,o3b] false).seq ((Code.cond (.tmp rm.ok) .skip (.exit rm.b)).seq (Code.block rm.b2 ((Code.region i4 (o4::tl).toArray false).seq rb)))
def W9 (ps:List (MapEntry×List DL))(g:Nat->Bool):List (MapEntry×List DL):=ps.filter fun p=> !g p.1.born
theorem leftP_push (g g':Nat->Bool):∀(ps:List (MapEntry×List DL)) (e:MapEntry) (c:List DL),(∀y,g' y=(g y||y==e.born))->ps.Pairwise (fun a b=>a.1.born≠b.1.born)->(e,c)∈ps->g e.born=false->
  ∃i,(W9 ps g)[i]? =some (e,c)/\W9 ps g'=(W9 ps g).eraseIdx i:=by
 intro ps
 induction ps with
 |nil=>intro e c _ _ h;simp at h
 |cons p ps ih=>
  intro e c push hp hm hs
  obtain⟨hp1,hp2⟩:=Zt.1 hp
  rcases Zk.1 hm with rfl|hm
  ·refine⟨0,by simp[W9,hs],?_⟩
   have h1:W9 ((e,c)::ps) g=(e,c)::W9 ps g:=by simp[W9,hs]
   have h2:W9 ((e,c)::ps) g'=W9 ps g':=by
    simp only[W9]
    rw[List.filter_cons_of_neg]
    simp[push]
   rw[h1,h2,List.eraseIdx_cons_zero]
   unfold W9
   refine List.filter_congr fun q hq=> ?_
   have:=hp1 q hq
   rw[push]
   have :(q.1.born==e.born)=false:=by simpa using fun h=>this h.symm
   rw[this,Bool.or_false]
  ·obtain⟨i,h1,h2⟩:=ih e c push hp2 hm hs
   have hne:p.1.born≠e.born:=hp1 (e,c) hm
   have hpe:(p.1.born==e.born)=false:=by simpa using hne
   cases hq:g p.1.born with
   |true=>
    refine⟨i,?_,?_⟩
    ·simp only[W9]at h1⊢
     rw[List.filter_cons_of_neg (by simp[hq])];exact h1
    ·simp only[W9]at h2⊢
     rw[List.filter_cons_of_neg (by rw[push,hq];simp),List.filter_cons_of_neg (by simp[hq])];exact h2
   |false=>
    refine⟨i+1,?_,?_⟩
    ·simp only[W9]at h1⊢
     rw[List.filter_cons_of_pos (by simp[hq])];simpa using h1
    ·simp only[W9]at h2⊢
     rw[List.filter_cons_of_pos (by rw[push,hq,hpe];simp),List.filter_cons_of_pos (by simp[hq]),List.eraseIdx_cons_succ,h2]
theorem contains_push' (seen:Array Nat)(x y:Nat):(seen.push x).contains y=(seen.contains y||y==x):=by
 rw[Array.contains_push]
structure RMSt (nt lo:Nat)(rm:RM)(iid:Nat)(O:BS)(w0:World)(μ0':Nat->Nat)(hh:HF)(es:Array MapEntry)(clk bm r:Nat)(blk:Blk)(seen:Array Nat)(s:St)(W:World)(μ:Nat->Nat)(a:Act):Prop where
 inv:HInv W O μ (Xi s.H)
 slots:Slots lo nt O W μ (Xi s.H) a s.T
 mono:Mono O w0 μ0' hh W μ (Xi s.H)
 map:W.heap[bm]? =some (.map es clk)
 iter:W.heap[r]? =some (.mapIter (some bm) clk seen clk)
 it:itOk rm.it iid s=true
 mu:μ iid=r
 nlr:¬Live O μ (Xi s.H) r
 nlb:¬Live O μ (Xi s.H) bm
 low:w0.heap.size<=r
 ent:All2 (EntOk W O μ (Xi s.H) blk) es.toList blk.ch
theorem itOk_spec {it iid:Nat}{s:St}(h:itOk it iid s=true):Xf s.T it=some (.one (.ptr iid 0 0 0))/\∃b,Xi s.H iid=some b/\b.ver=0/\b.sz=0:=by
 unfold itOk at h
 rw[Zo]at h
 obtain⟨h1,h2⟩:=h
 split at h1
 ·rename_i i hg
  have:=Zj h1;subst this
  refine⟨hg,?_⟩
  split at h2
  ·rename_i b hb
   rw[Zo]at h2
   exact⟨b,hb,Zj h2.1,Zj h2.2⟩
  ·simp at h2
 ·simp at h1
theorem EntOk.mono {w w':World}{μ μ':Nat->Nat}{h h':HF}{b:Blk}{e:MapEntry}{c:List DL}(m:Mono O w μ h w' μ' h')(x:EntOk w O μ h b e c):EntOk w' O μ' h' b e c:=by
 obtain⟨kv,xv,h1,h2,h3,h4⟩:=x
 exact⟨kv,xv,h1,h2,h3,h4.imp fun _ _=>RepD.mono m⟩
theorem EntOk.same {w w':World}{μ:Nat->Nat}{h:HF}{b:Blk}{e:MapEntry}{c:List DL}(m:SameData w w')(x:EntOk w O μ h b e c):EntOk w' O μ h b e c:=by
 obtain⟨kv,xv,h1,h2,h3,h4⟩:=x
 exact⟨kv,xv,h1,h2,h3,h4.imp fun _ _=>RepD.same m⟩
theorem SG (m:Option Nat)(a:Nat)(b:Array Nat)(c:Nat):Dull (.mapIter m a b c):=⟨(fun _ _ _ h=>by cases h),(fun _ _ h=>by cases h)⟩
theorem leftP_fst (g:Nat->Bool):∀(l:List MapEntry) (ch:List (List DL)),l.length=ch.length->(W9 (l.zip ch) g).map (·.1)=l.filter fun e=> !g e.born
 |[],[],_=>rfl
 |[],_::_,h=>by simp at h
 |_::_,[],h=>by simp at h
 |e::l,c::ch,h=>by
  have ih:=leftP_fst g l ch (by simpa using h)
  simp only[W9,List.zip_cons_cons]at ih⊢
  cases hg:g e.born with
  |true=>rw[List.filter_cons_of_neg (by simp[hg]),List.filter_cons_of_neg (by simp[hg])];exact ih
  |false=>rw[List.filter_cons_of_pos (by simp[hg]),List.filter_cons_of_pos (by simp[hg])];simp[ih]
theorem map_eraseIdx' {α β:Type}(f:α->β):∀(l:List α) (i:Nat),(l.eraseIdx i).map f=(l.map f).eraseIdx i
 |[],_=>by simp
 |_::_,0=>by simp
 |x::l,i+1=>by simp[map_eraseIdx' f l i]
theorem pairwise_zip {R:MapEntry->MapEntry->Prop}:∀(l:List MapEntry) (ch:List (List DL)),l.Pairwise R->(l.zip ch).Pairwise fun a b=>R a.1 b.1
 |[],_,_=>by simp
 |_::_,[],_=>by simp
 |e::l,c::ch,h=>by
  obtain⟨h1,h2⟩:=Zt.1 h
  rw[List.zip_cons_cons]
  exact Zt.2 ⟨fun p hp=>h1 p.1 (List.of_mem_zip hp).1,pairwise_zip l ch h2⟩
theorem rep_tup3 {w:World}{μ:Nat->Nat}{h:HF}{v1 v2 v3:Value}{d1 d2 d3:DV}(h1:WS w O μ h v1 d1)(h2:WS w O μ h v2 d2)(h3:WS w O μ h v3 d3):Xo w O μ h (.tuple #[v1,v2,v3]) (.tup [d1,d2,d3]):=⟨[v1,v2,v3],rfl,.cons h1 (.cons h2 (.cons h3 .nil))⟩
theorem put_eval (a:Act)(t:Nat)(v:Value)(ht:t<a.tmps.size):(a.put (some t) v).eval (.tmp t)=v:=put_same a t v ht
theorem rm_round (E:Oracle)(hE:OracleOk P E)(hD:Rh P E)(K:Nat){nt lo:Nat}(rm:RM){o2a o2b o3a o3b o4:Oper}{tl:List Oper}{rb:Code}(ho:RMOps P nt rm o2a o2b o3a o3b o4 tl rb)(i3 i4 iid:Nat)
  {w0:World} {μ0':Nat->Nat} {hh:HF} (hI0:HInv w0 O μ0' hh) (es:Array MapEntry) (clk bm r:Nat) (blk:Blk) (hsz:blk.sz=rm.klen) (hty:Nat.beq blk.ty 1=true) (hborn:Born es.toList clk) (Q:Exit->Act->World->Prop) (N:Act->World->Prop)
  (seen:Array Nat) (s:St) (W:World) (μ:Nat->Nat) (a:Act) (st:RMSt nt lo rm iid O w0 μ0' hh es clk bm r blk seen s W μ a)
  (hover:W9 (es.toList.zip blk.ch) seen.contains=[]->∀a,Slots lo nt O W μ (Xi s.H) a ((rm.ok,.one (.p (.bool false)))::(rm.nx,.tup [.one (.p (.bool false))])::s.T)->Q (.exit rm.b) a W)
  (hstep:∀e c,(e,c)∈es.toList.zip blk.ch->seen.contains e.born=false->∃s',rmRound E K rm iid s c=some s'/\∀W' μ' a',RMSt nt lo rm iid O w0 μ0' hh es clk bm r blk (seen.push e.born) s' W' μ' a'->N a' W'):
  (rmLoop rm i3 i4 o3a o3b o4 tl rb).wpIn Fence.wide 0 P (Exit.then N Q) a W:=by
 have hF:Vc Fence.wide:=.inl rfl
 obtain⟨hit,ib,hib,hiv,his⟩:=itOk_spec st.it
 have hasz:=st.slots.sz
 have hva:a.eval (.tmp rm.it)=.pointer (some ⟨r,0,none⟩):=by
  obtain⟨b,g,o,e,hb,_,hs⟩:=(st.slots.slot rm.it _ hit).Ra
  rw[hib]at hb;cases hb
  obtain⟨h1,h2⟩:=hs hiv.symm
  have :a.eval (.tmp rm.it)=a.tmps.getD rm.it undef:=rfl
  rw[this,e,h1,h2,st.mu,his]
 obtain⟨hm2,hlit,hnx,hok,hen⟩:=ho.lt
 have hlen:es.toList.length=blk.ch.length:=st.ent.length
 refine wpIn_seq (wpIn_region_list ?_)
 rcases run_next_at (P:=P) W o3a.type r bm clk clk seen es clk st.iter st.map hborn.2 (Zg _)with⟨h0,hrun⟩|⟨e,he,w1,hw1,hrun⟩
 ·refine V7 hF ho.a3.2.2 (by rw[ho.a3.2.1];intro c h;cases h) _ (w':=W) (by simp only[execOp,ho.a3.2.1];exact X1 (by rw[hva];exact hrun)) ?_
  rw[ho.a3.1]
  refine V7 hF ho.b3.2.2 (by rw[ho.b3.2.1];intro c h;cases h) (.bool false) (w':=W) (by simp only[execOp,ho.b3.2.1];exact X1 (by rw[put_eval _ _ _ (by omega)];simp[Instr.extract])) ?_
  rw[ho.b3.1]
  refine wpIn_seq (wpIn_cond_false (put_eval _ _ _ (by rw[(put_defers _ _ _).2];omega)) (wpIn_exit ?_))
  have hslots:=(st.slots.put (some rm.nx) (by simp[dstOk];omega) (.tuple #[.bool false]) (.tup [.one (.p (.bool false))]) ⟨[.bool false],rfl,.cons (RepD.p _ _ (.bool _)) .nil⟩).put (some rm.ok) (by simp[dstOk];omega) (.bool false) (.one (.p (.bool false))) (RepD.p _ _ (.bool _))
  refine hover ?_ _ hslots
  have :(W9 (es.toList.zip blk.ch) seen.contains).map (·.1)=[]:=by
   rw[leftP_fst _ _ _ hlen]
   have :(leftOf es seen).toList=[]:=by simpa using h0
   rw[<-this];simp[leftOf]
  simpa using this
 ·have he':e∈es.toList/\seen.contains e.born=false:=by
   simp only[leftOf,Array.toList_filter,YC]at he
   exact⟨he.1,by simpa using he.2⟩
  obtain⟨q,hq⟩:=Z2.1 he'.1
  obtain⟨c,hc⟩:∃c,blk.ch[q]? =some c:=⟨_,Zf (by have:=(Zb.1 hq).1;omega)⟩
  have hmem:(e,c)∈es.toList.zip blk.ch:=Z2.2 ⟨q,by simp[List.getElem?_zip_eq_some,hq,hc]⟩
  obtain⟨s',hround,hN⟩:=hstep e c hmem he'.2
  have hg1:Mono O W μ (Xi s.H) w1 μ (Xi s.H)/\HInv w1 O μ (Xi s.H):=by
   rcases hw1 with rfl|rfl
   ·exact⟨Mono.refl _ _ _ _,st.inv⟩
   ·exact UL st.inv (Zg _) (fun _ _=>rfl) rfl rfl rfl
  have hh1:w1.heap=W.heap:=by rcases hw1 with rfl|rfl<;>rfl
  have hr1:w1.heap[r]? =some (.mapIter (some bm) clk seen clk):=by rw[hh1];exact st.iter
  have hrlt:r<w1.heap.size:=(ZW.1 hr1).1
  have hne:bm≠r:=fun e=>by have:=st.map;rw[e,st.iter]at this;cases this
  generalize hW2:w1.putObj r (.mapIter (some bm) clk (seen.push e.born) clk)=W2
  have hset:ChangeMaps.setBlock w1 r (.mapIter (some bm) clk (seen.push e.born) clk)=W2:=hW2
  rw[hset]at hrun
  have sd:SameData w1 W2:=by rw[<-hW2];exact VJ hr1 (SG _ _ _ _) (SG _ _ _ _)
  have hI2:HInv W2 O μ (Xi s.H):=hg1.2.same sd
  have hS2:Slots lo nt O W2 μ (Xi s.H) a s.T:=by rw[<-hW2];exact(st.slots.mono hg1.1).same hr1 (SG _ _ _ _) (fun _ h=>by cases h) (SG _ _ _ _)
  have hM2:Mono O w0 μ0' hh W2 μ (Xi s.H):=by rw[<-hW2];exact Ue hI0 (st.mono.trans hg1.1) st.low _
  have hit2:W2.heap[r]? =some (.mapIter (some bm) clk (seen.push e.born) clk):=by rw[<-hW2];exact World.putObj_heap_same hrlt
  have hmp2:W2.heap[bm]? =some (.map es clk):=by rw[<-hW2,World.putObj_heap_other hne,hh1];exact st.map
  have hent2:All2 (EntOk W2 O μ (Xi s.H) blk) es.toList blk.ch:=st.ent.imp fun x y hxy=>(hxy.mono hg1.1).same sd
  obtain⟨e2,he2,kv,xv,hk1,hk2,hk3,hk4⟩:=hent2.get q c hc
  rw[hq]at he2;cases he2
  rw[hty]at hk2
  simp only[ValOf,if_true]at hk2
  have VY:All2 (RepD W2 O μ (Xi s.H)) kv (c.take rm.klen):=by
   have:=hk4.take rm.klen
   rwa[List.take_append_of_le_length (by omega),Ze (by omega)]at this
  have hdrop:All2 (RepD W2 O μ (Xi s.H)) xv (c.drop rm.klen):=by
   have:=hk4.drop rm.klen
   rwa[List.drop_append_of_le_length (by omega),Zp (by omega),ZL]at this
  have hkey:WS W2 O μ (Xi s.H) e.key (.agg (c.take rm.klen)):=⟨kv,hk1,VY⟩
  have hval:WS W2 O μ (Xi s.H) e.val (.agg (c.drop rm.klen)):=⟨xv,hk2,hdrop⟩
  have hb1:WS W2 O μ (Xi s.H) (.bool true) (.one (.p (.bool true))):=RepD.p _ _ (.bool _)
  refine V7 hF ho.a3.2.2 (by rw[ho.a3.2.1];intro c h;cases h) _ (w':=W2) (by simp only[execOp,ho.a3.2.1];exact X1 (by rw[hva];exact hrun)) ?_
  rw[ho.a3.1]
  refine V7 hF ho.b3.2.2 (by rw[ho.b3.2.1];intro c h;cases h) (.bool true) (w':=W2) (by simp only[execOp,ho.b3.2.1];exact X1 (by rw[put_eval _ _ _ (by omega)];simp[Instr.extract])) ?_
  rw[ho.b3.1]
  have hsA:=(hS2.put (some rm.nx) (by simp[dstOk];omega) (.tuple #[.bool true,e.key,e.val]) (.tup [.one (.p (.bool true)),.agg (c.take rm.klen),.agg (c.drop rm.klen)]) (rep_tup3 hb1 hkey hval)).put (some rm.ok) (by simp[dstOk];omega) (.bool true) (.one (.p (.bool true))) hb1
  refine wpIn_seq (wpIn_cond_true (put_eval _ _ _ (by rw[(put_defers _ _ _).2];omega)) (wpIn_skip ?_))
  refine wpIn_block (wpIn_seq (wpIn_region_list ?_))
  have hva2:(((a.put (some rm.nx) (.tuple #[.bool true,e.key,e.val])).put (some rm.ok) (.bool true)).eval (.tmp rm.it))=.pointer (some ⟨r,0,none⟩):=by
   show(((a.put (some rm.nx) (.tuple #[.bool true,e.key,e.val])).put (some rm.ok) (.bool true)).tmps.getD rm.it undef)=_
   rw[put_other _ _ _ _ (fun h=>ho.ne.2.1 (by simpa using h)),put_other _ _ _ _ (fun h=>ho.ne.1 (by simpa using h))]
   exact hva
  have hnod:(es.toList.map (·.born)).Nodup:=List.pairwise_map.2 hborn.1
  show wpListIn Fence.wide 0 P (o4::tl).toArray _ (o4::tl) _ W2
  refine V7 hF ho.a4.2.2 (by rw[ho.a4.2.1];intro c h;cases h) (.tuple #[e.key,e.val]) (w':=W2) (by simp only[execOp,ho.a4.2.1];exact X1 (by rw[hva2];exact run_entry_at W2 r bm clk seen es clk e hit2 hmp2 he'.1 hnod)) ?_
  rw[ho.a4.1]
  have hsB:=hsA.put (some rm.en) (by simp[dstOk];omega) (.tuple #[e.key,e.val]) (.tup [.agg (c.take rm.klen),.agg (c.drop rm.klen)]) (rep_tup2 hkey hval)
  unfold rmRound at hround
  split at hround
  ·rename_i s1 hev
   split at hround
   ·rename_i s2 hev2
    obtain⟨hiok,heq⟩:=Xk hround
    subst heq
    refine evOps_wp (O:=O) E hE hF 0 0 (nt:=nt) (o4::tl) tl rm.tail ho.tail _ s1 _ W2 μ hev hI2 hsB fun a3 w3 μ3 g1 g2 g3=> ?_
    refine SE E hE hD K 0 nt rm.rb O Fence.wide 0 lo hF (.inl rfl) rb ho.body s1 .normal s2 hev2 a3 w3 μ3 g1 g2 _ fun a4 w4 μ4 k1 k2 k3=> ?_
    have hM:=g3.trans k3
    obtain⟨_,ib',hib',hiv',_⟩:=itOk_spec hiok
    have hmu:μ4 iid=r:=by
     obtain⟨b',h1,_,_,h4⟩:=hM.ids iid ib hib
     rw[hib']at h1;cases h1
     rw[(h4 (by rw[hiv,hiv'])).1];exact st.mu
    have hrlt2:r<W2.heap.size:=(ZW.1 hit2).1
    have hblt2:bm<W2.heap.size:=(ZW.1 hmp2).1
    exact hN _ _ _ ⟨k1,k2,hM2.trans hM,(hM.keeps.keep _ hblt2 st.nlb).trans hmp2,(hM.keeps.keep _ hrlt2 st.nlr).trans hit2,hiok,hmu,fun hl=>(hM.keeps.live _ hl).elim st.nlr (by omega),fun hl=>(hM.keeps.live _ hl).elim st.nlb (by omega),st.low,hent2.imp fun x y hxy=>hxy.mono hM⟩
   ·simp at hround
  ·simp at hround
theorem rm_loop (E:Oracle)(hE:OracleOk P E)(hD:Rh P E)(K:Nat){nt lo:Nat}(rm:RM){o2a o2b o3a o3b o4:Oper}{tl:List Oper}{rb:Code}(ho:RMOps P nt rm o2a o2b o3a o3b o4 tl rb)(i3 i4 iid:Nat)
  {w0:World} {μ0':Nat->Nat} {hh:HF} (hI0:HInv w0 O μ0' hh) (es:Array MapEntry) (clk bm r:Nat) (blk:Blk) (hsz:blk.sz=rm.klen) (hty:Nat.beq blk.ty 1=true) (hborn:Born es.toList clk) (Q:Exit->Act->World->Prop) (ss:List St)
  (hQ:∀s∈ss,∀a W μ,HInv W O μ (Xi s.H)->Slots lo nt O W μ (Xi s.H) a ((rm.ok,.one (.p (.bool false)))::(rm.nx,.tup [.one (.p (.bool false))])::s.T)->Mono O w0 μ0' hh W μ (Xi s.H)->Q (.exit rm.b) a W):
  ∀(k:Nat) (seen:Array Nat) (s:St) (W:World) (μ:Nat->Nat) (a:Act) (fs:List St),RMSt nt lo rm iid O w0 μ0' hh es clk bm r blk seen s W μ a->(W9 (es.toList.zip blk.ch) seen.contains).length=k->finals E K rm iid k ((W9 (es.toList.zip blk.ch) seen.contains).map (·.2)) s=some fs->(∀x∈fs,x∈ss)->
   Code.roundsIn Fence.wide 0 P (rmLoop rm i3 i4 o3a o3b o4 tl rb) Q (k+1) a W:=by
 intro k
 induction k with
 |zero=>
  intro seen s W μ a fs st hk hf hss
  have hnil:W9 (es.toList.zip blk.ch) seen.contains=[]:=YB hk
  refine rm_round E hE hD K rm ho i3 i4 iid hI0 es clk bm r blk hsz hty hborn Q _ seen s W μ a st (fun _ a' hs=> ?_) fun e c hm hs=> ?_
  ·rw[hnil]at hf
   simp only[ZZ,finals,Za]at hf
   exact hQ s (hss s (by rw[<-hf];simp)) a' W μ st.inv hs st.mono
  ·exfalso
   have :(e,c)∈W9 (es.toList.zip blk.ch) seen.contains:=YC.2 ⟨hm,by simp only[hs,Bool.not_false]⟩
   rw[hnil]at this;simp at this
 |succ k ih=>
  intro seen s W μ a fs st hk hf hss
  refine rm_round E hE hD K rm ho i3 i4 iid hI0 es clk bm r blk hsz hty hborn Q _ seen s W μ a st (fun hnil=> ?_) fun e c hm hs=> ?_
  ·rw[hnil]at hk;simp at hk
  ·obtain⟨i,h1,h2⟩:=leftP_push seen.contains (seen.push e.born).contains (es.toList.zip blk.ch) e c (fun y=>contains_push' seen e.born y) (pairwise_zip _ _ hborn.1) hm hs
   cases hl:(W9 (es.toList.zip blk.ch) seen.contains).map (·.2)with
   |nil=>have :((W9 (es.toList.zip blk.ch) seen.contains).map (·.2)).length=0:=by rw[hl];rfl
         simp at this;rw[this]at hk;simp at hk
   |cons c0 cs0=>
   rw[hl]at hf
   simp only[finals]at hf
   split at hf
   ·rename_i ls hls
    simp only[Za]at hf;subst hf
    have hpm:(c,(c0::cs0).eraseIdx i)∈picks (c0::cs0):=picks_mem _ _ _ (by rw[<-hl,Zv,h1];rfl)
    obtain⟨j,hj⟩:=Z2.1 hpm
    obtain⟨hlen,hget⟩:=VO hls
    have hjl:j<ls.length:=by rw[<-hlen];exact(Zb.1 hj).1
    obtain⟨p,hp1,hp2⟩:=hget j ls[j] (Zf hjl)
    rw[hj]at hp1;cases hp1
    simp only at hp2
    split at hp2
    ·rename_i s' hr
     refine⟨s',hr,fun W' μ' a' st'=>ih (seen.push e.born) s' W' μ' a' ls[j] st' ?_ ?_ fun x hx=>hss x (List.mem_flatten.2 ⟨ls[j],YP hjl,hx⟩)⟩
     ·rw[h2,List.length_eraseIdx,if_pos (Zb.1 h1).1];omega
     ·rw[h2]
      have :((W9 (es.toList.zip blk.ch) seen.contains).eraseIdx i).map (·.2)=(c0::cs0).eraseIdx i:=by rw[<-hl,map_eraseIdx']
      rw[this];exact hp2
    ·simp at hp2
   ·simp at hf
end
end Go.Ev
namespace Go.Ev
open Go.RowKit
def eqLs {α:Type}(f:α->α->Bool):List α->List α->Bool
 |[],[]=>true
 |x::xs,y::ys=>f x y&&eqLs f xs ys
 |_,_=>false
def eqPL:Nat->PL->PL->Bool
 |_,.bool a,.bool b=>(a&&b)||(!a&& !b)
 |_,.int k a,.int k' b=>keq k k'&&eqF a b
 |_,.nilS,.nilS=>true
 |n+1,.lst a,.lst b=>eqLs (eqLs (eqPL n)) a b
 |n+1,.ref a,.ref b=>eqLs (eqPL n) a b
 |_,_,_=>false
def eqPV:PV->PV->Bool
 | .one a,.one b=>eqPL 6 a b
 | .agg a,.agg b=>eqLs (eqPL 6) a b
 |_,_=>false
theorem eqLs_eq {α:Type}{f:α->α->Bool}(hf:∀x y,f x y=true->x=y):∀(a b:List α),eqLs f a b=true->a=b
 |[],[],_=>rfl
 |[],_::_,h=>by simp[eqLs]at h
 |_::_,[],h=>by simp[eqLs]at h
 |x::xs,y::ys,h=>by
  simp only[eqLs,Zo]at h
  rw[hf x y h.1,eqLs_eq hf xs ys h.2]
theorem eqPL_eq:∀(n:Nat) (a b:PL),eqPL n a b=true->a=b:=by
 intro n
 induction n with
 |zero=>
  intro a b h
  cases a<;>cases b<;>simp only[eqPL,Zs]at h
  ·rename_i x y;cases x<;>cases y<;>simp at h<;>rfl
  ·rename_i k x k' y
   rw[Zo]at h
   rw[(Wx _ _).1 h.1,show x=y by have:=h.2;rw[eqF_eq]at this;simpa using this]
  ·rfl
 |succ n ih=>
  intro a b h
  cases a<;>cases b<;>simp only[eqPL,Zs]at h
  ·rename_i x y;cases x<;>cases y<;>simp at h<;>rfl
  ·rename_i k x k' y
   rw[Zo]at h
   rw[(Wx _ _).1 h.1,show x=y by have:=h.2;rw[eqF_eq]at this;simpa using this]
  ·rfl
  ·rename_i x y
   rw[eqLs_eq (fun u v huv=>eqLs_eq ih u v huv) x y h]
  ·rename_i x y
   rw[eqLs_eq ih x y h]
theorem eqPV_eq (a b:PV)(h:eqPV a b=true):a=b:=by
 cases a<;>cases b<;>simp only[eqPV,Zs]at h
 ·rw[eqPL_eq 6 _ _ h]
 ·rw[eqLs_eq (eqPL_eq 6) _ _ h]
def rmPost (E:Oracle)(K:Nat)(rm:RM)(s:St):Option PV:=
 match Xp E K 0 rm.post ⟨(rm.ok,.one (.p (.bool false)))::(rm.nx,.tup [.one (.p (.bool false))])::s.T,s.H⟩with
 |some (.normal,s1)|some (.ret,s1)=>
  match Xl (X3 s1) rm.results with
  |some rs=>match Xl (Xw (Xi s1.H)) rs with
   |some ps=>some (packP ps)
   |none=>none
  |none=>none
 |_=>none
def frzB (b:Blk):Blk:={b with fz:=true}
def sameAll (r:PV):List PV->Bool
 |[]=>true
 |x::xs=>eqPV r x&&sameAll r xs
def evRmapF (E:Oracle)(K:Nat)(rm:RM)(args:List DV)(H:List Blk):Option (DV×List Blk):=
 match(bif Nat.ble args.length rm.ntmps then Xp E K 0 rm.pre0 ⟨Vr args 0,H.map frzB⟩else none)with
 |some (.normal,s1)=>
  match Xp E K 0 rm.pre1 s1 with
  |some (.normal,s2)=>
   match Xf s2.T rm.m with
   |some (.one (.mp id))=>
    match s2.H[id]? with
    |some b=>bif b.mp&&b.fz&&Nat.beq b.ty 1&&Nat.beq b.sz rm.klen then
      match finals E K rm s2.H.length b.ch.length b.ch ⟨(rm.it,.one (.ptr s2.H.length 0 0 0))::(rm.m2,.one (.mp id))::s2.T,s2.H++[⟨true,0,0,[],true,2⟩]⟩with
      |some ss=>
       match Xl (rmPost E K rm) ss with
       |some (r::rs)=>bif sameAll r rs then some (inj r,H.map frzB)else none
       |_=>none
      |none=>none
     else none
    |none=>none
   |_=>none
  |_=>none
 |_=>none
structure RMFun (P:Program)(f:Nat)(rm:RM):Prop where
 ok:∃fn R0 R1 C i2 i3 i4 o2a o2b o3a o3b o4 tl rb,P.funcs[f]? =some fn/\
  fn.body = some (Code.seq R0 (Code.seq R1 (Code.seq (Code.seq (Code.region i2 #[o2a, o2b] false) (Code.block rm.b (Code.loop (rmLoop rm i3 i4 o3a o3b o4 tl rb)))) C))) /\ (fn.name == "runtime.NumGoroutine") = false /\ fn.ntmps = rm.ntmps /\
  Xz P fn.ntmps R0=some rm.pre0.erase/\Xz P fn.ntmps R1=some rm.pre1.erase/\Xz P fn.ntmps C=some rm.post.erase/\Xl (T4 P) fn.results.toList=some rm.results/\RMOps P fn.ntmps rm o2a o2b o3a o3b o4 tl rb
theorem HFof_frz (H:List Blk):Xi (H.map frzB)=frz (Xi H) (List.range H.length):=by
 funext x
 simp only[Xi,frz,Zv]
 cases hx:H[x]? with
 |none=>simp
 |some b=>
  have :x<H.length:=(Zb.1 hx).1
  simp[frzB,this]
theorem sameAll_eq {r:PV}:∀(l:List PV),sameAll r l=true->∀x∈l,x=r
 |[],_,x,hx=>by simp at hx
 |y::l,h,x,hx=>by
  simp only[sameAll,Zo]at h
  rcases Zk.1 hx with rfl|hx
  ·exact(eqPV_eq _ _ h.1).symm
  ·exact sameAll_eq l h.2 x hx
theorem rmapF_CH2 {P:Program}(E:Oracle)(hE:OracleOk P E)(hD:Rh P E)(K:Nat){f:Nat}{rm:RM}(hf:RMFun P f rm)(args:List DV)(H:List Blk)(r:PV){s1 s2:St}{id:Nat}{b:Blk}{ss:List St}(hle:args.length<=rm.ntmps)
  (hev0:Xp E K 0 rm.pre0 ⟨Vr args 0,H.map frzB⟩=some (.normal,s1)) (hev1:Xp E K 0 rm.pre1 s1=some (.normal,s2)) (hmid:Xf s2.T rm.m=some (.one (.mp id))) (hb:s2.H[id]? =some b) (hmp:b.mp=true) (hfz:b.fz=true) (hty:Nat.beq b.ty 1=true) (hsz:b.sz=rm.klen)
  (hfin:finals E K rm s2.H.length b.ch.length b.ch ⟨(rm.it,.one (.ptr s2.H.length 0 0 0))::(rm.m2,.one (.mp id))::s2.T,s2.H++[⟨true,0,0,[],true,2⟩]⟩=some ss) (hpost:∀s∈ss,rmPost E K rm s=some r):CH P f args H (inj r) (H.map frzB)/\Ent P f:=by
 obtain⟨fn,R0,R1,C,i2,i3,i4,o2a,o2b,o3a,o3b,o4,tl,rb,hfn,hbody,hname,hnt,hc0,hc1,hcC,hres,ho⟩:=hf.ok
 refine⟨fun w O μ vs hI hargs=> ?_,ent_of hfn hname hbody⟩
 have hty2:Nat.beq b.ty 2=false:=by rw[Zj hty];rfl
 have hF:Vc Fence.wide:=.inl rfl
 obtain⟨fm,fi⟩:=frz_state (w':=w) hI (List.range H.length) (Zg _) (fun _ _=>rfl) rfl rfl rfl
 rw[<-HFof_frz]at fm fi
 have hlive0:∀q,Live O μ (Xi (H.map frzB)) q->O q:=by
  rintro q (hq|⟨i,blk,h1,h2,_⟩)
  ·exact hq
  ·simp only[Xi,Zv]at h1
   cases hx:H[i]? with
   |none=>simp[hx]at h1
   |some c=>simp only[hx,ZS,Za]at h1;subst h1;simp[frzB]at h2
 have hsl:Slots w.heap.size fn.ntmps O w μ (Xi (H.map frzB)) {tmps:=vs.toArray++Array.replicate (fn.ntmps-vs.toArray.size) undef,defers:=[]} (Vr args 0):=
  slots_enter (Zg _) (by rw[hnt];exact hle) (hargs.imp fun v x hx=>hx.mono fm)
 refine(callsIn_wide (n:=0)).1 (callsIn_of_wp_marks hfn hbody trivial ?_)
 refine wpIn_seq (SE E hE hD K 0 fn.ntmps rm.pre0 O Fence.wide 0 w.heap.size hF (.inl rfl) R0 hc0 ⟨Vr args 0,H.map frzB⟩ .normal s1 hev0 _ w μ fi hsl _ fun a1 w1 μ1 g1 g2 g3=> ?_)
 refine wpIn_seq (SE E hE hD K 0 fn.ntmps rm.pre1 O Fence.wide 0 w.heap.size hF (.inl rfl) R1 hc1 s1 .normal s2 hev1 a1 w1 μ1 g1 g2 _ fun a2 w2 μ2 k1 k2 k3=> ?_)
 refine wpIn_seq (wpIn_seq (wpIn_region_list ?_))
 have hM2:=g3.trans k3
 have hb':Xi s2.H id=some b:=hb
 obtain⟨es,clk,hE2,⟨_,hborn⟩,hall⟩:=(k1.blk id b hb').map hmp hty2
 have hvm:a2.eval (.tmp rm.m)=.map (some (μ2 id)):=by
  have hx':RepD w2 O μ2 (Xi s2.H) (a2.tmps.getD rm.m undef) (.mp id):=k2.slot rm.m _ hmid
  show a2.tmps.getD rm.m undef=_
  generalize a2.tmps.getD rm.m undef=v at hx'
  cases hx' with
  |mp _ _ _ _=>rfl
 obtain⟨hm2,hlit,hnx,hok,hen⟩:=ho.lt
 obtain⟨mt,hb21,hb22,hb23,kt,et,hmt⟩:=ho.b2
 refine V7 hF ho.a2.2.2 (by rw[ho.a2.2.1];intro c h;cases h) (.map (some (μ2 id))) (w':=w2) (by simp only[execOp,ho.a2.2.1,hvm];rfl) ?_
 rw[ho.a2.1]
 have hsA:=k2.put (some rm.m2) (by simp[dstOk];omega) (.map (some (μ2 id))) (.one (.mp id)) (RepD.mp id b hb' hmp)
 have hsz2:=k2.sz
 refine V7 hF hb23 (by rw[hb22];intro c h;cases h) (.pointer (some ⟨w2.heap.size,0,none⟩)) (w':=w2.alloc (.mapIter (some (μ2 id)) clk #[] clk)) (by
  simp only[execOp,hb22]
  refine X1 ?_
  rw[put_eval _ _ _ (by omega)]
  simp[Instr.range,SY hmt,MapKept.run_getObj_map hE2,newObj,go_sem,Result.andThen]
  rfl) ?_
 rw[hb21]
 have hnone:Xi s2.H s2.H.length=none:=by simp[Xi]
 obtain⟨am,ai⟩:=T8 (w':=w2.alloc (.mapIter (some (μ2 id)) clk #[] clk)) (n:=s2.H.length) k1 hnone ⟨true,0,0,[],true,2⟩ (by simp) (fun k hk=>RowKit.Below.heap_alloc _ _ _ hk) rfl rfl rfl
 have hHeq:(fun x=>if x=s2.H.length then some (⟨true,0,0,[],true,2⟩:Blk)else Xi s2.H x)=Xi (s2.H++[⟨true,0,0,[],true,2⟩]):=by
  rw[HFof_al];rfl
 have hnew:(w2.alloc (.mapIter (some (μ2 id)) clk #[] clk)).heap[w2.heap.size]? =some (.mapIter (some (μ2 id)) clk #[] clk):=Go.heap_alloc_new w2 _
 have ai:=ai (by
  unfold X9
  simp only[if_true]
  rw[if_pos (show Nat.beq 2 2=true from rfl)]
  exact⟨_,hnew,SG _ _ _ _⟩)
 rw[hHeq]at am ai
 generalize hμ3:(fun i=>if i=s2.H.length then w2.heap.size else μ2 i)=μ3 at am ai
 have hidlt:id<s2.H.length:=(Zb.1 hb).1
 have hμ3n:μ3 s2.H.length=w2.heap.size:=by rw[<-hμ3];simp
 have hsB:Slots w.heap.size fn.ntmps O (w2.alloc (.mapIter (some (μ2 id)) clk #[] clk)) μ3 (Xi (s2.H++[⟨true,0,0,[],true,2⟩])) ((a2.put (some rm.m2) (.map (some (μ2 id)))).put (some rm.it) (.pointer (some ⟨w2.heap.size,0,none⟩))) ((rm.it,.one (.ptr s2.H.length 0 0 0))::(rm.m2,.one (.mp id))::s2.T):=by
  refine(hsA.mono am).put (some rm.it) (by simp[dstOk];omega) _ (.one (.ptr s2.H.length 0 0 0)) (RepD.ptr s2.H.length 0 0 0 ⟨true,0,0,[],true,2⟩ _ _ (by simp[Xi]) (Zg _) fun _=>⟨hμ3n.symm,by simp⟩)
 have hnlr:¬Live O μ3 (Xi (s2.H++[⟨true,0,0,[],true,2⟩])) w2.heap.size:=by
  rintro (hq|⟨i,blk,h1,h2,h3⟩)
  ·have:=k1.lt _ hq;omega
  ·by_cases e:i=s2.H.length
   ·subst e;simp[Xi]at h1;subst h1;simp at h2
   ·have:=ai.inj i s2.H.length blk _ h1 (by simp[Xi];rfl) (by rw[h3,hμ3n])
    exact e this
 have hnlb:¬Live O μ3 (Xi (s2.H++[⟨true,0,0,[],true,2⟩])) (μ2 id):=by
  have hid3:Xi (s2.H++[⟨true,0,0,[],true,2⟩]) id=some b:=by simp only[Xi];rw[Zy hidlt];exact hb
  have hμid:μ3 id=μ2 id:=by rw[<-hμ3];simp only[];rw[if_neg (by omega)]
  rintro (hq|⟨i,blk,h1,h2,h3⟩)
  ·exact k1.disj id b hb' hq
  ·have:=ai.inj i id blk b h1 hid3 (by rw[h3,hμid])
   subst this;rw[hid3]at h1;cases h1;rw[hfz]at h2;cases h2
 have hMall:=hM2.trans am
 refine wpIn_block (wpIn_loop_rounds (b.ch.length+1) ?_)
 have hlenE:es.toList.length=b.ch.length:=hall.length
 have hleft:W9 (es.toList.zip b.ch) (#[]:Array Nat).contains=es.toList.zip b.ch:=by
  unfold W9
  exact List.filter_eq_self.2 fun p _=>by simp
 have hsnd:(es.toList.zip b.ch).map (·.2)=b.ch:=by
  have:=List.map_snd_zip (l₁:=es.toList) (l₂:=b.ch) (by omega)
  exact this
 refine rm_loop (lo:=w.heap.size) E hE hD K rm ho i3 i4 s2.H.length fi es clk (μ2 id) w2.heap.size b hsz hty hborn _ ss ?_ b.ch.length #[] ⟨(rm.it,.one (.ptr s2.H.length 0 0 0))::(rm.m2,.one (.mp id))::s2.T,s2.H++[⟨true,0,0,[],true,2⟩]⟩ _ μ3 _ ss ⟨ai,hsB,hMall,?_,hnew,?_,hμ3n,hnlr,hnlb,hM2.keeps.size,?_⟩ ?_ ?_ (fun x hx=>hx)
 ·
  intro s hs a3 W μ4 h1 h2 h3
  show(if rm.b=rm.b then _ else _)
  rw[if_pos rfl]
  have hp:=hpost s hs
  unfold rmPost at hp
  have fin:∀(ex:Ex) (s4:St),(ex=.normal\/ex=.ret)->Xp E K 0 rm.post ⟨(rm.ok,.one (.p (.bool false)))::(rm.nx,.tup [.one (.p (.bool false))])::s.T,s.H⟩=some (ex,s4)->
    (match Xl (X3 s4) rm.results with
     |some rs=>match Xl (Xw (Xi s4.H)) rs with
      |some ps=>some (packP ps)
      |none=>none
     |none=>none)=some r->C.wpIn Fence.wide 0 P (bodyPostM Fence.wide 0 P fn (fun e w'=>∃v μ',e=.returned v/\Xo w' O μ' (Xi (H.map frzB)) v (inj r)/\HInv w' O μ' (Xi (H.map frzB))/\Mono O w μ (Xi H) w' μ' (Xi (H.map frzB)))) a3 W:=by
   intro ex s4 hex hev4 hp4
   cases hm4:Xl (X3 s4) rm.results with
   |none=>simp[hm4]at hp4
   |some rs4=>
   simp only[hm4]at hp4
   cases hz4:Xl (Xw (Xi s4.H)) rs4 with
   |none=>simp[hz4]at hp4
   |some ps4=>
   simp only[hz4,Za]at hp4
   refine SE E hE hD K 0 fn.ntmps rm.post O Fence.wide 0 w.heap.size hF (.inl rfl) C hcC _ ex s4 hev4 a3 W μ4 h1 h2 _ fun a5 w5 μ5 m1 m2 m3=> ?_
   have hlv:=S8 (P:=P) (O:=O) (μ:=μ5) (nt:=fn.ntmps) (s:=s4) (fn:=fn) fi rm.results rs4 hres hm4 (fun e w'=>∃v μ',e=.returned v/\Xo w' O μ' (Xi (H.map frzB)) v (inj r)/\HInv w' O μ' (Xi (H.map frzB))/\Mono O w μ (Xi H) w' μ' (Xi (H.map frzB))) a5.tmps
    (fun us w' n1 n2 n3=>by
     have hblk:∀k,k<w.heap.size->w'.heap[k]? =w.heap[k]? :=fun k hk=>by
      by_cases hok:O k
      ·exact n3.okeep k hok
      ·exact n3.keeps.keep k hk fun hl=>hok (hlive0 k hl)
     obtain⟨gm,gi⟩:=UL (w':=w') fi n3.keeps.size hblk n3.os n3.tape n3.output
     refine⟨_,μ,rfl,?_,gi,fm.trans gm⟩
     have hpk:=pack_rep n1 O (fun q hq=>.inl hq) (fun id b hb=>n1.disj id b hb) us rs4 ps4 n2 hz4
     rw[hp4]at hpk
     refine inj_of (fun v l hl=> ?_) hpk
     rw[TV]at hl
     exact hl.anti fun q hq=>hlive0 q hq)
    a5.defers w5 m1 m2 (h3.trans m3)
   rcases hex with rfl|rfl<;>exact hlv
  split at hp
  ·rename_i s4 hev4;exact fin .normal s4 (.inl rfl) hev4 hp
  ·rename_i s4 hev4;exact fin .ret s4 (.inr rfl) hev4 hp
  ·simp at hp
 ·exact(RowKit.Below.heap_alloc _ _ _ (k1.lt_size hb')).trans hE2
 ·simp[itOk,Vv]
 ·exact hall.imp fun x y hxy=>hxy.mono am
 ·rw[hleft,List.length_zip];omega
 ·rw[hleft,hsnd];exact hfin
theorem rmapF_CH {P:Program}(E:Oracle)(hE:OracleOk P E)(hD:Rh P E)(K:Nat){f:Nat}{rm:RM}(hf:RMFun P f rm)(args:List DV)(H:List Blk)(d:DV)(H':List Blk)(hr:evRmapF E K rm args H=some (d,H')):CH P f args H d H'/\Ent P f:=by
 unfold evRmapF at hr
 cases hle:Nat.ble args.length rm.ntmps with
 |false=>rw[hle]at hr;simp at hr
 |true=>
 rw[hle,cond_true]at hr
 have hle:=Wb hle
 split at hr
 ·rename_i s1 hev0
  split at hr
  ·rename_i s2 hev1
   split at hr
   ·rename_i id hmid
    split at hr
    ·rename_i b hb
     obtain⟨hcond,hr⟩:=XA hr
     simp only[Zo]at hcond
     obtain⟨⟨⟨hmp,hfz⟩,hty⟩,hsz⟩:=hcond
     have hsz:=Zj hsz
     split at hr
     ·rename_i ss hfin
      split at hr
      ·rename_i r rs hpost
       obtain⟨hsame,heq⟩:=Xk hr
       simp only[Zl]at heq;obtain⟨rfl,rfl⟩:=heq
       refine rmapF_CH2 E hE hD K hf args H r hle hev0 hev1 hmid hb hmp hfz hty hsz hfin fun s hs=> ?_
       obtain⟨hlp,hgp⟩:=VO hpost
       obtain⟨j,hj⟩:=Z2.1 hs
       have hjl:j<(r::rs).length:=by rw[<-hlp];exact(Zb.1 hj).1
       obtain⟨s',hs',hp⟩:=hgp j (r::rs)[j] (Zf hjl)
       rw[hj]at hs';cases hs'
       have hrr:(r::rs)[j]=r:=by
        rcases Zk.1 (YP hjl)with h|h
        ·exact h
        ·exact sameAll_eq rs hsame _ h
       rw[hrr]at hp
       exact hp
      ·simp at hr
     ·simp at hr
    ·simp at hr
   ·simp at hr
  ·simp at hr
 ·simp at hr
def inN (n:Nat):List Nat->Bool
 |[]=>false
 |x::xs=>bif Nat.beq n x then true else inN n xs
def without (fs:List Nat)(X:Nat->Option XFunc):Nat->Option XFunc:=fun f=>bif inN f fs then none else X f
theorem without_ok {P:Program}{X:Nat->Option XFunc}(fs:List Nat)(hX:∀f xf,X f=some xf->FunOk P f xf):∀f xf,without fs X f=some xf->FunOk P f xf:=by
 intro f xf h
 unfold without at h
 cases hb:inN f fs with
 |true=>rw[hb,cond_true]at h;cases h
 |false=>rw[hb,cond_false]at h;exact hX f xf h
end Go.Ev
