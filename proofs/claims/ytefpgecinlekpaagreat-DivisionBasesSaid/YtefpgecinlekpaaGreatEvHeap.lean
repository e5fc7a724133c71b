/- Operations that read the heap or make blocks. -/
import Derived.Test.YtefpgecinlekpaaGreatEvOps
import Derived.Maps.AppendAt
import Derived.Deep.AppendSrc
namespace Go.Ev
section
variable {P:Program}{O:BS}{w:World}{μ:Nat->Nat}{h:HF}{n:Nat}
theorem X9.cells {id:Nat}{b:Blk}(hb:X9 w O μ h id b)(hm:b.mp=false):∃(C:Array Value),w.heap[μ id]? =some (.cells C b.ty (0,0))/\b.ch.length*b.sz<=C.size/\
  ∀(i:Nat) (c:List DL),b.ch[i]? =some c->c.length=b.sz/\∀(j:Nat) (d:DL),c[j]? =some d->∃v,C[i*b.sz+j]? =some v/\RepD w O μ h v d:=by
 unfold X9 at hb;rw[hm]at hb;simpa using hb
theorem X9.of_cells {id:Nat}{b:Blk}(hm:b.mp=false)(hb:∃(C:Array Value),w.heap[μ id]? =some (.cells C b.ty (0,0))/\b.ch.length*b.sz<=C.size/\
  ∀(i:Nat) (c:List DL),b.ch[i]? =some c->c.length=b.sz/\∀(j:Nat) (d:DL),c[j]? =some d->∃v,C[i*b.sz+j]? =some v/\RepD w O μ h v d):X9 w O μ h id b:=by
 unfold X9;rw[hm];simpa using hb
theorem HInv.heap_some (hI:HInv w O μ h){id:Nat}{b:Blk}(hb:h id=some b):∃ob,w.heap[μ id]? =some ob:=by
 have:=hI.blk id b hb
 unfold X9 at this
 split at this
 ·split at this
  ·obtain⟨o,e,_⟩:=this;exact⟨_,e⟩
  ·obtain⟨es,clk,e,_⟩:=this;exact⟨_,e⟩
 ·obtain⟨C,e,_⟩:=this;exact⟨_,e⟩
theorem HInv.lt_size (hI:HInv w O μ h){id:Nat}{b:Blk}(hb:h id=some b):μ id<w.heap.size:=by
 obtain⟨ob,e⟩:=hI.heap_some hb
 exact(ZW.1 e).1
theorem X9.mono {w':World}{μ':Nat->Nat}{h':HF}(m:Mono O w μ h w' μ' h'){id:Nat}{b:Blk}(e:w'.heap[μ' id]? =w.heap[μ id]?)(hb:X9 w O μ h id b):X9 w' O μ' h' id b:=by
 unfold X9 at hb⊢
 cases hm:b.mp
 ·rw[hm]at hb
  simp only[Zs,if_false]at hb⊢
  obtain⟨C,hC,hl,hc⟩:=hb
  refine⟨C,by rw[e];exact hC,hl,fun i c hi=>⟨(hc i c hi).1,fun j d hj=> ?_⟩⟩
  obtain⟨v,hv,hr⟩:=(hc i c hi).2 j d hj
  exact⟨v,hv,hr.mono m⟩
 ·rw[hm]at hb
  simp only[if_true]at hb⊢
  cases hty:Nat.beq b.ty 2
  case true=>
   rw[hty,if_pos rfl]at hb
   rw[if_pos rfl]
   obtain⟨o,ho,hd⟩:=hb
   exact⟨o,by rw[e];exact ho,hd⟩
  rw[hty,if_neg (by simp)]at hb
  rw[if_neg (by simp)]
  obtain⟨es,clk,hC,hv,ha⟩:=hb
  refine⟨es,clk,by rw[e];exact hC,hv,ha.imp fun x c ⟨kv,xv,h1,h2,h3,h4⟩=>⟨kv,xv,h1,h2,h3,h4.imp fun _ _=>RepD.mono m⟩⟩
theorem T8 {w':World}(hI:HInv w O μ h)(hn:h n=none)(b:Blk)(hsz:w.heap.size<=w'.heap.size)(hblk:∀k,k<w.heap.size->w'.heap[k]? =w.heap[k]?)(hos:w'.os=w.os)(hta:w'.tape=w.tape)(hou:w'.output=w.output):
  Mono O w μ h w' (fun id=>if id=n then w.heap.size else μ id) (fun x=>if x=n then some b else h x)/\
  (X9 w' O (fun id=>if id=n then w.heap.size else μ id) (fun x=>if x=n then some b else h x) n b->HInv w' O (fun id=>if id=n then w.heap.size else μ id) (fun x=>if x=n then some b else h x)):=by
 have hm:Mono O w μ h w' (fun id=>if id=n then w.heap.size else μ id) (fun x=>if x=n then some b else h x):=by
  refine⟨hos,hta,hou,⟨hsz,fun k hk _=>hblk k hk,fun k hk=> ?_⟩,fun k hk=>hblk k (hI.lt k hk),fun id x hx=> ?_,fun id x hx _=> ?_⟩
  ·rcases hk with hk|⟨id,blk,hid,hf,he⟩
   ·exact .inl (.inl hk)
   ·by_cases e:id=n
    ·subst e;simp at he;right;omega
    ·simp only[e,if_false]at hid he
     exact .inl (.inr ⟨id,blk,hid,hf,he⟩)
  ·have e:id≠n:=fun e=>by rw[e,hn]at hx;cases hx
   refine⟨x,by simp[e,hx],Zg _,rfl,fun _=>⟨by simp[e],rfl,fun C T hC=>⟨C,?_,rfl⟩⟩⟩
   rw[hblk _ (hI.lt_size hx)];exact hC
  ·have e:id≠n:=fun e=>by rw[e,hn]at hx;cases hx
   simp[e]
 refine⟨hm,fun hb=>⟨fun id x hx=> ?_,fun id id' x x' hx hx' he=> ?_,fun id x hx=> ?_,fun k hk=> ?_⟩⟩
 ·by_cases e:id=n
  ·subst e;simp at hx;subst hx;exact hb
  ·simp only[e,if_false]at hx
   exact(hI.blk id x hx).mono hm (by simp only[e,if_false];exact hblk _ (hI.lt_size hx))
 ·by_cases e:id=n<;>by_cases e':id'=n
  ·rw[e,e']
  ·simp only[e',if_false]at hx'
   have:=hI.lt_size hx'
   simp only[e,e',if_true,if_false]at he;omega
  ·simp only[e,if_false]at hx
   have:=hI.lt_size hx
   simp only[e,e',if_true,if_false]at he;omega
  ·simp only[e,e',if_false]at hx hx' he
   exact hI.inj id id' x x' hx hx' he
 ·by_cases e:id=n
  ·simp only[e,if_true]
   intro ho;have:=hI.lt _ ho;omega
  ·simp only[e,if_false]at hx⊢
   exact hI.disj id x hx
 ·have:=hI.lt k hk;omega
theorem sim_newvar (t:TypeId)(cells:Array Value)(cs:List DL)(hc:All2 (RepD w O μ h) cells.toList cs)(hn:h n=none)(hI:HInv w O μ h){res:Result Next}
  (hr:res=.ok (.value (.pointer (some ⟨w.heap.size,0,none⟩))) (w.alloc (.cells cells t))):WO O w μ h n res ⟨.one (.ptr n 0 0 0),[⟨false,0,cs.length,[cs],false,t⟩],[],[]⟩:=by
 obtain⟨hm,hinv⟩:=T8 (w':=w.alloc (.cells cells t)) (n:=n) hI hn ⟨false,0,cs.length,[cs],false,t⟩ (by simp) (fun k hk=>RowKit.Below.heap_alloc _ _ _ hk) rfl rfl rfl
 refine⟨_,_,_,.inl hr,RepD.ptr n 0 0 0 _ _ _ (if_pos rfl) (Zg _) (fun _=>⟨by simp,by simp⟩),hinv ?_,hm⟩
 refine X9.of_cells rfl ⟨cells,?_,?_,fun i c hi=> ?_⟩
 ·simp only[if_true];exact heap_alloc_new w _
 ·have:=hc.length;simp at this;simp;omega
 ·cases i with
  |succ i=>simp at hi
  |zero=>
   simp at hi;subst hi
   refine⟨rfl,fun j d hj=> ?_⟩
   obtain⟨v,hv,hd⟩:=hc.get j d hj
   exact⟨v,by simpa using hv,hd.mono hm⟩
theorem UE (t:TypeId)(cells:Array Value):(newRow t cells).run P w=.ok ⟨w.heap.size,0,none⟩ (w.alloc (.cells cells t)):=rfl
theorem sim_box (t:TypeId)(x:Operand)(ρ:Operand->Value)(o:Oper)(ho:o.op=.box t x)(dx:DV)(hx:Xo w O μ h (ρ x) dx)(r:Res)(hr:opBox t n [dx]=some r)(hn:h n=none)(hI:HInv w O μ h):
  WO O w μ h n ((execOp ρ o).run P w) r:=by
 simp only[opBox]at hr
 cases hc:dx.cells with
 |none=>simp[hc]at hr
 |some cs=>
 simp only[hc,Za]at hr;subst hr
 refine sim_newvar t (ρ x).cells cs (hx.cells hc) hn hI ?_
 simp only[execOp,ho]
 exact X1 (by simp only[Instr.box,newVar,Sem.run_bind,UE,Result.andThen_ok,Sem.run_pure])
theorem sim_alloc (t:TypeId)(z:List PL)(ρ:Operand->Value)(o:Oper)(ho:o.op=.alloc t)(hz:zeroOf P t=some z)(r:Res)(hr:TS t z n []=some r)(hn:h n=none)(hI:HInv w O μ h):
  WO O w μ h n ((execOp ρ o).run P w) r:=by
 simp only[TS,Za]at hr;subst hr
 obtain⟨i,zv,hi,hzv,hzl,hzs,hzr,hzrep⟩:=VF hz
 have:=sim_newvar (n:=n) t zv.cells (z.map .p) (hzrep w O μ h) hn hI (res:=(execOp ρ o).run P w)
  (by simp only[execOp,ho];exact X1 (by simp only[Instr.alloc,newVar,Sem.run_bind,hzr,UE,Result.andThen_ok,Sem.run_pure]))
 simpa using this
theorem Rf:∀(cs:List DL) (g q:Nat),(∀(j:Nat) (d:DL),cs[j]? =some d->∃v,w.cell? ⟨g,q+j,none⟩=some v/\RepD w O μ h v d)->
  ∃xs:List Value,All2 (RepD w O μ h) xs cs/\∀(j:Nat) (v:Value),xs[j]? =some v->w.cell? ⟨g,q+j,none⟩=some v
 |[],_,_,_=>⟨[],.nil,fun j v hv=>by simp at hv⟩
 |c::cs,g,q,H=>by
  obtain⟨v,hv,hr⟩:=H 0 c rfl
  obtain⟨xs,ha,hx⟩:=Rf cs g (q+1) fun j d hj=>by
   have:=H (j+1) d (by simpa using hj)
   rwa[show q+(j+1)=q+1+j by omega]at this
  refine⟨v::xs,.cons hr ha,fun j u hu=> ?_⟩
  cases j with
  |zero=>simp at hu;subst hu;simpa using hv
  |succ j=>rw[show q+(j+1)=q+1+j by omega];exact hx j u (by simpa using hu)
theorem run_isAgg {t:TypeId}{agg:Bool}(ha:aggT P t=some agg):(isAgg t).run P w=.ok agg w:=by
 unfold aggT at ha
 unfold isAgg
 split at ha<;>simp only[Za,reduceCtorEq]at ha<;>subst ha<;>rename_i hu
 ·simp[underlying,hu]
 ·simp[underlying,hu]
 ·rename_i hn1 hn2
  rename_i d
  cases d<;>simp_all [underlying]
theorem load_head (t:TypeId)(i:TypeInfo)(agg:Bool)(ha:aggT P t=some agg)(hi:P.info? t=some i)(g q:Nat)(cs:List DL)
  (H:∀(j:Nat) (d:DL),cs[j]? =some d->∃v,w.cell? ⟨g,q+j,none⟩=some v/\RepD w O μ h v d) (dv:DV) (hv:Uf agg i.size cs=some dv):
  ∃v,(Instr.loadAt t (.pointer (some ⟨g,q,none⟩))).run P w=.ok v w/\Xo w O μ h v dv:=by
 have hagg:=run_isAgg (w:=w) ha
 obtain⟨xs,hall,hcell⟩:=Rf cs g q H
 unfold Uf at hv
 cases agg with
 |true=>
  simp only[cond_true]at hv
  obtain⟨hle,rfl⟩:=Xk hv
  have hle:=Wb hle
  have hsz:(Go.sizeOf t).run P w=.ok i.size w:=by simp[Go.sizeOf,typeInfo,hi]
  have hl:=hall.length
  have hload:=run_loadCells_list (P:=P) w ⟨g,q,none⟩ (xs.take i.size) fun j v hj=>by
   rw[Vs]
   rw[Z7]at hj
   split at hj
   ·exact hcell j v hj
   ·simp at hj
  rw[ZK,Yg (by omega)]at hload
  refine⟨.agg (xs.take i.size).toArray,?_,⟨_,rfl,hall.take i.size⟩⟩
  simp only[Instr.loadAt,Instr.sureAddr,loadVar,Sem.run_bind,Sem.run_pure,Result.andThen_ok,hagg,if_true,hsz,hload]
 |false=>
  simp only[cond_false]at hv
  cases hall with
  |nil=>simp at hv
  |@cons x c xs cs h1 h2=>
  simp only[Za]at hv;subst hv
  have hc:=hcell 0 x rfl
  refine⟨x,?_,h1⟩
  simp only[Instr.loadAt,Instr.sureAddr,loadVar,Sem.run_bind,Sem.run_pure,Result.andThen_ok,hagg,Zs,if_false]
  simp only[Yu]at hc
  simp[go_sem,hc]
theorem chunk_cells (hI:HInv w O μ h){id i:Nat}{b:Blk}{c:List DL}(hb:h id=some b)(hm:b.mp=false)(hc:b.ch[i]? =some c)(off:Nat):
  ∀(j:Nat) (d:DL),(c.drop off)[j]? =some d->∃v,w.cell? ⟨μ id,i*b.sz+off+j,none⟩=some v/\RepD w O μ h v d:=by
 intro j d hj
 obtain⟨C,hC,_,hcs⟩:=(hI.blk id b hb).cells hm
 rw[Z8]at hj
 obtain⟨v,hv,hr⟩:=(hcs i c hc).2 (off+j) d hj
 refine⟨v,?_,hr⟩
 simp only[World.cell?,hC]
 rw[<-Nat.add_assoc]at hv
 simpa using hv
theorem chunkAt_spec {id ver i:Nat}{c:List DL}(hc:UZ h id ver i=some c):∃b,h id=some b/\b.ver=ver/\b.mp=false/\b.ch[i]? =some c:=by
 unfold UZ at hc
 cases hb:h id with
 |none=>simp[hb]at hc
 |some b=>
 simp only[hb]at hc
 obtain⟨h1,h2⟩:=XA hc
 rw[Zo]at h1
 exact⟨b,rfl,Zj h1.1,by simpa using h1.2,h2⟩
theorem sim_load (t:TypeId)(i:TypeInfo)(agg:Bool)(x:Operand)(ρ:Operand->Value)(o:Oper)(ho:o.op=.load t x)(ha:aggT P t=some agg)(hi:P.info? t=some i)(dx:DV)(hx:Xo w O μ h (ρ x) dx)(r:Res)
  (hr:S3 agg i.size h [dx]=some r) (hI:HInv w O μ h):WO O w μ h n ((execOp ρ o).run P w) r:=by
 unfold S3 at hr
 split at hr
 ·rename_i cs heq
  simp only[ZI,and_true]at heq;subst heq
  cases hv:Uf agg i.size (cs.map .p)with
  |none=>simp[hv]at hr
  |some dv=>
  simp only[hv,Za]at hr;subst hr
  obtain⟨g,q,e,vals,hl,hc,hp⟩:=hx.inv_ref
  obtain⟨v,hrun,hrep⟩:=load_head (P:=P) (w:=w) (O:=O) (μ:=μ) (h:=h) t i agg ha hi g q (cs.map .p) (fun j d hj=>by
   rw[Zv]at hj
   cases hcj:cs[j]? with
   |none=>simp[hcj]at hj
   |some l=>
    simp only[hcj,ZS,Za]at hj;subst hj
    exact⟨vals j,hc j l hcj,.p _ _ (hp j l hcj)⟩) dv hv
  refine XC hI ?_ hrep
  simp only[execOp,ho]
  exact X1 (by rw[e];exact hrun)
 ·rename_i id ver ci off heq
  simp only[ZI,and_true]at heq;subst heq
  cases hc:UZ h id ver ci with
  |none=>simp[hc]at hr
  |some c=>
  simp only[hc]at hr
  obtain⟨hle,hr⟩:=XA hr
  cases hv:Uf agg i.size (c.drop off)with
  |none=>simp[hv]at hr
  |some dv=>
  simp only[hv,Za]at hr;subst hr
  obtain⟨b,hb,hver,hm,hch⟩:=chunkAt_spec hc
  obtain⟨b',g,q,e,hb',hv',hsm⟩:=hx.Ra
  rw[hb]at hb';cases hb'
  obtain⟨rfl,rfl⟩:=hsm hver.symm
  obtain⟨v,hrun,hrep⟩:=load_head (P:=P) (w:=w) (O:=O) (μ:=μ) (h:=h) t i agg ha hi (μ id) (ci*b.sz+off) (c.drop off) (chunk_cells hI hb hm hch off) dv hv
  refine Un hI ?_ hrep
  simp only[execOp,ho]
  exact X1 (by rw[e];exact hrun)
 ·simp at hr
end
end Go.Ev
namespace Go.Ev
theorem X0 {α:Type}{sz:Nat}:∀(L:List (List α)),(∀c∈L,c.length=sz)->L.flatten.length=L.length*sz
 |[],_=>by simp
 |c::L,hL=>by
  rw[List.flatten_cons,Zm,X0 L (fun x hx=>hL x (by simp[hx])),hL c (by simp),Zi,ZJ];omega
theorem Vh {α:Type}{sz:Nat}:∀(L:List (List α)),(∀c∈L,c.length=sz)->∀(i:Nat) (c:List α) (j:Nat) (d:α),L[i]? =some c->c[j]? =some d->L.flatten[i*sz+j]? =some d
 |[],_,i,c,j,d,hi,_=>by simp at hi
 |x::L,hL,i,c,j,d,hi,hj=>by
  have hx:=hL x (by simp)
  cases i with
  |zero=>
   simp at hi;subst hi
   have :j<x.length:=(Zb.1 hj).1
   rw[List.flatten_cons,Zy (by simpa using this)];simpa using hj
  |succ i=>
   rw[List.flatten_cons,ZB (by rw[hx,ZJ];omega),hx]
   rw[show(i+1)*sz+j-sz=i*sz+j by rw[ZJ];omega]
   exact Vh L (fun c hc=>hL c (by simp[hc])) i c j d (by simpa using hi) hj
theorem flatten_set {α:Type}{sz:Nat}:∀(L:List (List α)) (i:Nat) (ds:List α),(∀c∈L,c.length=sz)->ds.length=sz->i<L.length->
  (L.set i ds).flatten=L.flatten.take (i*sz)++ds++L.flatten.drop (i*sz+sz)
 |[],i,ds,_,_,hi=>by simp at hi
 |x::L,i,ds,hL,hd,hi=>by
  have hx:=hL x (by simp)
  cases i with
  |zero=>
   simp only[List.set_cons_zero,List.flatten_cons,YK,ZY,List.take_zero,ZL]
   rw[<-hx,List.drop_append_of_le_length (Zg _)];simp
  |succ i=>
   simp only[List.set_cons_succ,List.flatten_cons]
   rw[flatten_set L i ds (fun c hc=>hL c (by simp[hc])) hd (by simpa using hi)]
   have e1:(i+1)*sz=x.length+i*sz:=by rw[hx,ZJ];omega
   rw[e1,List.take_length_add_append]
   rw[show x.length+i*sz+sz=x.length+(i*sz+sz)by omega,List.drop_length_add_append]
   simp[Zq]
section
variable {P:Program}{O:BS}{w:World}{μ:Nat->Nat}{h:HF}{n:Nat}
theorem SV {w':World}(e sz cap len:Nat)(C:Array Value)(ch:List (List DL))(rd:List Nat)(hlen:ch.length=len)(hch:∀c∈ch,c.length=sz)(hl:len<=cap)(hC:cap*sz=C.size)(hcm:cap<=maxLen)
  (hc:∀(i:Nat) (c:List DL) (j:Nat) (d:DL),ch[i]? =some c->c[j]? =some d->∃v,C[i*sz+j]? =some v/\RepD w O μ h v d)
  (hn:h n=none) (hI:HInv w O μ h) (hnew:w'.heap[w.heap.size]? =some (.cells C e (0,0))) (hblk:∀k,k<w.heap.size->w'.heap[k]? =w.heap[k]?) (hos:w'.os=w.os) (hta:w'.tape=w.tape) (hou:w'.output=w.output) {res:Result Next}
  (hr:res=.ok (.value (.slice (some ⟨w.heap.size,0,none⟩) len cap)) w'):WO O w μ h n res ⟨.one (.own n 0 0 len),[⟨false,0,sz,ch,false,e⟩],[],rd⟩:=by
 have hszw:w.heap.size<=w'.heap.size:=Nat.le_of_lt (ZW.1 hnew).1
 obtain⟨hm,hinv⟩:=T8 (w':=w') (n:=n) hI hn ⟨false,0,sz,ch,false,e⟩ hszw hblk hos hta hou
 refine⟨_,_,_,.inl hr,RepD.own n 0 0 len _ _ _ _ (if_pos rfl) (Zg _) hl (fun _=>⟨by simp,C,e,by simpa using hnew,.inl ⟨by simp,by simpa using hC,hcm⟩⟩),hinv ?_,hm⟩
 refine X9.of_cells rfl ⟨C,by simpa using hnew,?_,fun i c hi=>⟨hch c (Zu hi),fun j d hj=> ?_⟩⟩
 ·simp only[hlen];rw[<-hC];exact Zn _ hl
 ·obtain⟨v,hv,hd⟩:=hc i c j d hi hj
  exact⟨v,hv,hd.mono hm⟩
theorem map_range_zero (f g:Nat->Value):Array.map f (Array.range 0)=Array.map g (Array.range 0):=by
 apply Array.ext';simp[Array.toList_map,Array.toList_range]
theorem made_all2 {zv:Value}{z:List PL}(hzrep:All2 (RepD w O μ h) zv.cells.toList (z.map .p))(hz:0<z.length)(len:Nat):
  All2 (RepD w O μ h) (madeCells zv.cells (len*z.length)).toList (List.replicate len (z.map DL.p)).flatten:=by
 have hzl:=hzrep.length
 simp only[Yr,ZU]at hzl
 have hall:∀c∈List.replicate len (z.map DL.p),c.length=z.length:=by intro c hc;rw[List.eq_of_mem_replicate hc];simp
 refine All2.Vk ?_ fun k x y hx hy=> ?_
 ·rw[X0 _ hall];simp[madeCells]
 ·have hk:k<len*z.length:=by
   have:=(Zb.1 hy).1
   rw[X0 _ hall]at this;simpa using this
  have hq:k / z.length<len:=by rw[Nat.div_lt_iff_lt_mul hz];exact hk
  have hr:k%z.length<z.length:=ZN _ hz
  obtain⟨d,hd⟩:∃d,(z.map DL.p)[k%z.length]? =some d:=⟨(z.map DL.p)[k%z.length]'(by simpa using hr),by rw[Zf]⟩
  have hf:=Vh _ hall (k / z.length) (z.map DL.p) (k%z.length) d (by simp[hq]) hd
  rw[show k / z.length*z.length+k%z.length=k from Nat.div_add_mod' k z.length]at hf
  rw[hf]at hy;cases hy
  obtain⟨v,hv,hrep⟩:=hzrep.get _ _ hd
  have :x=v:=by
   simp only[madeCells,Array.toList_map,Zv,Array.toList_range]at hx
   rw[List.getElem?_range hk]at hx
   simp only[ZS,Za]at hx
   rw[<-hx,hzl]
   rw[Array.getElem?_toList]at hv
   rw[getElem!_def,hv]
  rw[this];exact hrep
theorem chunks_of_all2 {C:Array Value}{ch:List (List DL)}{sz:Nat}(hch:∀c∈ch,c.length=sz)(ha:All2 (RepD w O μ h) C.toList ch.flatten):
  ∀(i:Nat) (c:List DL) (j:Nat) (d:DL),ch[i]? =some c->c[j]? =some d->∃v,C[i*sz+j]? =some v/\RepD w O μ h v d:=by
 intro i c j d hi hj
 obtain⟨v,hv,hr⟩:=ha.get _ _ (Vh ch hch i c j d hi hj)
 exact⟨v,by simpa using hv,hr⟩
theorem sim_makeSlice (t e:TypeId)(z:List PL)(i:TypeInfo)(x y:Operand)(ρ:Operand->Value)(o:Oper)(ho:o.op=.makeSlice t x y)(ht:P.underlying t=some (.slice e))(hz:zeroOf P e=some z)(hi:P.info? e=some i)(hzp:0<z.length)
  (dx dy:DV) (hx:Xo w O μ h (ρ x) dx) (hy:Xo w O μ h (ρ y) dy) (r:Res) (hr:Vf e z i.bytes n [dx,dy]=some r) (hn:h n=none) (hI:HInv w O μ h):WO O w μ h n ((execOp ρ o).run P w) r:=by
 unfold Vf at hr
 split at hr
 ·rename_i k1 l k2 c heq
  simp only[ZI,and_true]at heq;obtain⟨rfl,rfl⟩:=heq
  obtain⟨hb,rfl⟩:=Xk hr
  simp only[Zo]at hb
  have h1:=Wb hb.1.1;have h2:=Wb hb.1.2;have h3:=Wb hb.2
  obtain⟨i',zv,hi',hzv,hzl,hzs,hzr,hzrep⟩:=VF hz
  rw[hi]at hi';cases hi'
  have hrun:(Instr.makeSlice t (.int k1 (Int.ofNat l)) (.int k2 (Int.ofNat c))).run P w=.ok (.slice (some ⟨w.heap.size,0,none⟩) l c) (w.alloc (.cells (madeCells zv.cells (c*i.size)) e)):=by
   have hby:(i.bytes:Int)*(c:Int)<=281474976710656:=by
    have :((i.bytes*c:Nat):Int)<=(lim:Nat):=by exact_mod_cast h2
    unfold lim at this;simp at this;omega
   have w1:IntKind.i64.wrap (l:Int)=l:=IntWalk.i64_in _ (by omega)
   have w2:IntKind.i64.wrap (c:Int)=c:=IntWalk.i64_in _ (by omega)
   have hsz:∀w',(Go.sizeOf e).run P w'=.ok i.size w':=by intro w';simp[Go.sizeOf,typeInfo,hi]
   have hti:∀w',(typeInfo e).run P w'=.ok i w':=by intro w';simp[typeInfo,hi]
   have har:∀(b:Nat) w',(askRoom b).run P w'=.ok () w':=by intro b w';unfold askRoom;split<;>simp[mark,Sem.run]
   have hcond:((decide ((c:Int)<0)||decide ((i.bytes:Int)*c>2^48))||decide ((l:Int)<0)||decide ((l:Int)>c))=false:=by
    simp;omega
   simp only[Instr.makeSlice,Sem.run_bind,run_underlying ht,Result.andThen_ok,asInt,asIntOf,Sem.run_pure,hti,ZH,w1,w2]
   rw[if_neg (by rw[hcond];simp)]
   simp only[Sem.run_bind,har,hsz,Result.andThen_ok,Int.toNat_natCast]
   by_cases h0:c*i.size=0
   ·rw[if_pos h0]
    simp only[Sem.run_bind,Sem.run_pure,Result.andThen_ok,UE]
    rw[h0];unfold madeCells;rw[map_range_zero _ (fun x=>zv.cells[x%zv.cells.size]!)]
   ·rw[if_neg h0]
    simp only[Sem.run_bind,hzr,Sem.run_pure,Result.andThen_ok,UE]
    rfl
  have hall:=made_all2 (hzrep w O μ h) hzp c
  have hrep:∀m,∀x∈List.replicate m (z.map DL.p),x.length=z.length:=by intro m x hx;rw[List.eq_of_mem_replicate hx];simp
  refine SV (w':=w.alloc (.cells (madeCells zv.cells (c*i.size)) e)) e z.length c l (madeCells zv.cells (c*i.size)) _ _ (by simp) (hrep l) h1 (by simp[madeCells,hzl]) (by unfold maxLen;omega) ?_ hn hI (heap_alloc_new w _) (fun k hk=>RowKit.Below.heap_alloc _ _ _ hk) rfl rfl rfl (by simp only[execOp,ho];exact X1 (by rw[hx.Wg,hy.Wg];exact hrun))
  intro i' cc j d hci hcj
  rw[<-hzl]
  refine chunks_of_all2 (hrep c) hall i' cc j d ?_ hcj
  rw[YF]at hci⊢
  split at hci
  ·rw[if_pos (by omega)];exact hci
  ·simp at hci
 ·simp at hr
theorem fillC_flat {sz:Nat}:∀(places:List Nat) (ds:List DV) (ch ch':List (List DL)),(∀c∈ch,c.length=sz)->fillC sz ch places ds=some ch'->
  fillD ch.flatten (places.map fun i=>(i*sz,sz)) ds=some ch'.flatten/\(∀c∈ch',c.length=sz)/\ch'.length=ch.length
 |[],[],ch,ch',hch,hf=>by simp only[fillC,Za]at hf;subst hf;exact⟨rfl,hch,rfl⟩
 |[],_::_,_,_,_,hf=>by simp[fillC]at hf
 |_::_,[],_,_,_,hf=>by simp[fillC]at hf
 |i::places,d::ds,ch,ch',hch,hf=>by
  simp only[fillC]at hf
  cases hd:d.cells with
  |none=>simp[hd]at hf
  |some dl=>
  simp only[hd]at hf
  obtain⟨hb,hf2⟩:=XA hf
  rw[Zo]at hb
  have hl:=Zj hb.1;have hi:=TL hb.2
  have hset:∀c∈ch.set i dl,c.length=sz:=by
   intro c hc
   rcases List.mem_or_eq_of_mem_set hc with h1|h1
   ·exact hch c h1
   ·rw[h1];exact hl
  obtain⟨h1,h2,h3⟩:=fillC_flat places ds _ ch' hset hf2
  refine⟨?_,h2,by rw[h3];simp⟩
  simp only[Zx,fillD,hd]
  have hlen:=X0 ch hch
  have hle:i*sz+sz<=ch.flatten.length:=by
   rw[hlen];have:=Zn sz (show i+1<=ch.length by omega);rw[ZJ]at this;omega
  have hb':(Nat.beq dl.length sz&&Nat.ble (i*sz+sz) ch.flatten.length)=true:=by
   rw[Zo];exact⟨by rw[hl];exact YH _,by rw[Nat.ble_eq];exact hle⟩
  rw[hb',cond_true,<-flatten_set ch i dl hch hl hi]
  exact h1
theorem sim_buildSlice (t e:TypeId)(z:List PL)(len:Nat)(parts:Array (Nat×Operand))(ρ:Operand->Value)(o:Oper)(ho:o.op=.buildSlice t len parts)(ht:P.underlying t=some (.slice e))(hz:zeroOf P e=some z)(hzp:0<z.length)
  (hsm:len*z.length<=16777216) (ds:List DV) (hds:All2 (fun y d=>Xo w O μ h (ρ y.2) d) parts.toList ds) (r:Res) (hr:WW e z len (parts.toList.map (·.1)) n ds=some r) (hn:h n=none) (hI:HInv w O μ h):
  WO O w μ h n ((execOp ρ o).run P w) r:=by
 unfold WW at hr
 cases hf:fillC z.length (List.replicate len (z.map .p)) (parts.toList.map (·.1)) ds with
 |none=>simp[hf]at hr
 |some ch=>
 simp only[hf,Za]at hr;subst hr
 obtain⟨i,zv,hi,hzv,hzl,hzs,hzr,hzrep⟩:=VF hz
 have hrep:∀x∈List.replicate len (z.map DL.p),x.length=z.length:=by intro x hx;rw[List.eq_of_mem_replicate hx];simp
 obtain⟨hflat,hch,hcl⟩:=fillC_flat _ _ _ _ hrep hf
 have hds':All2 (fun(p:Nat×Value) d=>Xo w O μ h p.2 d) (parts.map fun(x:Nat×Operand)=>(x.1,ρ x.2)).toList ds:=by
  rw[Array.toList_map]
  clear hf hflat
  generalize parts.toList=pl at hds
  induction hds with
  |nil=>exact .nil
  |cons q _ ih=>exact .cons q ih
 have hplaces:All2 (fun(p:Nat×Value) q=>(fun x=>some (x*z.length,z.length)) p.1=some q) (parts.map fun(x:Nat×Operand)=>(x.1,ρ x.2)).toList ((parts.toList.map (·.1)).map fun i=>(i*z.length,z.length)):=by
  rw[Array.toList_map]
  clear hf hflat hds hds'
  generalize parts.toList=pt
  induction pt with
  |nil=>exact .nil
  |cons q _ ih=>exact .cons rfl ih
 obtain⟨cells',hfill,hall⟩:=fill_spec (fun x=>some (x*z.length,z.length)) _ _ _ (madeCells zv.cells (len*z.length)) _ _ hplaces hds' (made_all2 (hzrep w O μ h) hzp len) hflat
 have hsz:∀w',(Go.sizeOf e).run P w'=.ok z.length w':=by intro w';rw[hzl];simp[Go.sizeOf,typeInfo,hi]
 have hcs:cells'.size=len*z.length:=by
  have:=hall.length
  rw[X0 ch hch,hcl]at this;simpa using this
 have hrun:(Instr.buildSlice t len (parts.map fun(x:Nat×Operand)=>(x.1,ρ x.2))).run P w=.ok (.slice (some ⟨w.heap.size,0,none⟩) len len) (w.alloc (.cells cells' e)):=by
  simp only[Instr.buildSlice,Sem.run_bind,run_underlying ht,Result.andThen_ok,hsz]
  rw[if_neg (by omega)]
  by_cases h0:len*z.length=0
  ·rw[if_pos h0]
   have hem:(madeCells zv.cells (len*z.length))=Array.map (fun x=>(#[]:Array Value)[x%(#[]:Array Value).size]!) (Array.range (len*z.length)):=by rw[h0];exact map_range_zero _ _
   rw[hem]at hfill
   simp only[Sem.run_bind,Sem.run_pure,Result.andThen_ok,hfill,UE]
  ·rw[if_neg h0]
   unfold madeCells at hfill
   simp only[Sem.run_bind,hzr,Sem.run_pure,Result.andThen_ok,hfill,UE]
 have hlm:len<=maxLen:=by
  have :len*1<=len*z.length:=Yq _ hzp
  unfold maxLen;omega
 exact SV (w':=w.alloc (.cells cells' e)) e z.length len len cells' ch [] (by rw[hcl];simp) hch (Zg _) hcs.symm hlm (chunks_of_all2 hch hall) hn hI (heap_alloc_new w _) (fun k hk=>RowKit.Below.heap_alloc _ _ _ hk) rfl rfl rfl
  (by simp only[execOp,ho];exact X1 hrun)
end
end Go.Ev
namespace Go.Ev
section
variable {P:Program}{O:BS}{w:World}{μ:Nat->Nat}{h:HF}{n:Nat}
theorem U0 {w':World}(hI:HInv w O μ h){id:Nat}{b b':Blk}{C C':Array Value}{g':Nat}(hb:h id=some b)(hm:b.mp=false)(hm':b'.mp=false)(hfz:b.fz=false)
  (hC:w.heap[μ id]? =some (.cells C b.ty (0,0))) (hC':w'.heap[g']? =some (.cells C' b.ty (0,0))) (hsz:w.heap.size<=w'.heap.size) (hoth:∀k,k<w.heap.size->k≠μ id->w'.heap[k]? =w.heap[k]?)
  (hg:g'=μ id\/w.heap.size<=g') (hver:b.ver<=b'.ver) (hsame:b'.ver=b.ver->g'=μ id/\b'.sz=b.sz/\C'.size=C.size) (hos:w'.os=w.os) (hta:w'.tape=w.tape) (hou:w'.output=w.output):
  Mono O w μ h w' (fun x=>if x=id then g' else μ x) (fun x=>if x=id then some b' else h x)/\
  (X9 w' O (fun x=>if x=id then g' else μ x) (fun x=>if x=id then some b' else h x) id b'->HInv w' O (fun x=>if x=id then g' else μ x) (fun x=>if x=id then some b' else h x)):=by
 have hlive:Live O μ h (μ id):=.inr ⟨id,b,hb,hfz,rfl⟩
 have hne:∀id2 x,h id2=some x->id2≠id->μ id2≠μ id:=fun id2 x hx hn e=>hn (hI.inj id2 id x b hx hb e)
 have hmn:Mono O w μ h w' (fun x=>if x=id then g' else μ x) (fun x=>if x=id then some b' else h x):=by
  refine⟨hos,hta,hou,⟨hsz,fun k hk hl=>hoth k hk fun e=>hl (e▸hlive),fun k hk=> ?_⟩,fun k hk=>hoth k (hI.lt k hk) fun e=>hI.disj id b hb (e▸hk),fun id2 x hx=> ?_,fun id2 x hx hmx=> ?_⟩
  ·rcases hk with hk|⟨id2,blk,hid,hf,he⟩
   ·exact .inl (.inl hk)
   ·by_cases e:id2=id
    ·subst e
     simp only[if_true]at he
     rcases hg with hg|hg
     ·left;rw[<-he,hg];exact hlive
     ·right;omega
    ·simp only[e,if_false]at hid he
     exact .inl (.inr ⟨id2,blk,hid,hf,he⟩)
  ·by_cases e:id2=id
   ·subst e
    rw[hb]at hx;cases hx
    refine⟨b',by simp,hver,by rw[hm,hm'],fun ev=> ?_⟩
    obtain⟨e1,e2,e3⟩:=hsame ev
    refine⟨by simp[e1],e2,fun D T hD=>⟨C',?_,?_⟩⟩
    ·rw[hC]at hD;cases hD;rw[<-e1];exact hC'
    ·rw[hC]at hD;cases hD;exact e3
   ·refine⟨x,by simp[e,hx],Zg _,rfl,fun _=>⟨by simp[e],rfl,fun D T hD=>⟨D,?_,rfl⟩⟩⟩
    rw[hoth _ (hI.lt_size hx) (hne id2 x hx e)];exact hD
  ·by_cases e:id2=id
   ·subst e;rw[hb]at hx;cases hx;rw[hm]at hmx;cases hmx
   ·simp[e]
 refine⟨hmn,fun hB=>⟨fun id2 x hx=> ?_,fun i1 i2 x y hx hy he=> ?_,fun id2 x hx=> ?_,fun k hk=>ZQ (hI.lt k hk) hsz⟩⟩
 ·by_cases e:id2=id
  ·subst e;simp at hx;subst hx;exact hB
  ·simp only[e,if_false]at hx
   exact(hI.blk id2 x hx).mono hmn (by simp only[e,if_false];exact hoth _ (hI.lt_size hx) (hne id2 x hx e))
 ·by_cases e1:i1=id<;>by_cases e2:i2=id
  ·rw[e1,e2]
  ·simp only[e2,if_false]at hy
   simp only[e1,e2,if_true,if_false]at he
   rcases hg with hg|hg
   ·exact absurd (he.symm.trans hg) (hne i2 y hy e2)
   ·have:=hI.lt_size hy;omega
  ·simp only[e1,if_false]at hx
   simp only[e1,e2,if_true,if_false]at he
   rcases hg with hg|hg
   ·exact absurd (he.trans hg) (hne i1 x hx e1)
   ·have:=hI.lt_size hx;omega
  ·simp only[e1,e2,if_false]at hx hy he
   exact hI.inj i1 i2 x y hx hy he
 ·by_cases e:id2=id
  ·subst e
   simp only[if_true]
   rcases hg with hg|hg
   ·rw[hg];exact hI.disj id2 b hb
   ·intro ho;have:=hI.lt _ ho;omega
  ·simp only[e,if_false]at hx⊢
   exact hI.disj id2 x hx
theorem setRow_facts (g:Nat)(C:Array Value)(T:TypeId)(D:Array Value)(hC:w.heap[g]? =some (.cells C T (0,0))):
  (w.setRow g D).heap[g]? =some (.cells D T (0,0))/\(∀k,k≠g->(w.setRow g D).heap[k]? =w.heap[k]?)/\(w.setRow g D).heap.size=w.heap.size:=by
 refine⟨?_,fun k hk=> ?_,?_⟩
 ·simp[World.setRow,Array.getElem?_modify,hC]
 ·simp only[World.setRow,Array.getElem?_modify];rw[if_neg (fun e=>hk e.symm)]
 ·simp[World.setRow]
theorem splice_get (L vs:List Value)(o:Nat)(hle:o+vs.length<=L.length)(k:Nat):
  (L.take o++vs++L.drop (o+vs.length))[k]? =if k<o then L[k]? else if k<o+vs.length then vs[k-o]? else L[k]? :=by
 have hto:(L.take o).length=o:=by simp;omega
 by_cases h1:k<o
 ·rw[if_pos h1,Zq,Zy (by omega),Z7,if_pos h1]
 ·rw[if_neg h1,Zq,ZB (by omega),hto]
  by_cases h2:k<o+vs.length
  ·rw[if_pos h2,Zy (by omega)]
  ·rw[if_neg h2,ZB (by omega),Z8]
   congr 1;omega
theorem sim_store (t:TypeId)(i:TypeInfo)(base:Nat)(x y:Operand)(ρ:Operand->Value)(o:Oper)(ho:o.op=.store t x y)(hi:P.info? t=some i)
  (dx dy:DV) (hx:Xo w O μ h (ρ x) dx) (hy:Xo w O μ h (ρ y) dy) (r:Res) (hr:TO base i.size h [dx,dy]=some r) (hI:HInv w O μ h):WO O w μ h n ((execOp ρ o).run P w) r:=by
 unfold TO at hr
 split at hr
 ·rename_i id ver ci off d2 heq
  simp only[ZI,and_true]at heq;obtain⟨rfl,rfl⟩:=heq
  cases hb:h id with
  |none=>simp[hb]at hr
  |some b=>
  simp only[hb]at hr
  cases hc:dy.cells with
  |none=>simp[hc]at hr
  |some cs=>
  simp only[hc,SQ]at hr
  obtain⟨hcnd,hr2⟩:=XA hr
  simp only[Zo]at hcnd
  obtain⟨⟨⟨⟨hv,hmp⟩,hfz⟩,hlen⟩,_⟩:=hcnd
  have hv:=Zj hv;have hlen:=Zj hlen
  have hmp:b.mp=false:=by simpa using hmp
  have hfz:b.fz=false:=by simpa using hfz
  cases hch:b.ch[ci]? with
  |none=>simp[hch]at hr2
  |some c=>
  simp only[hch]at hr2
  obtain⟨hle,rfl⟩:=Xk hr2
  have hle:=Wb hle
  obtain⟨b2,g,q,e,hb2,_,hsm⟩:=hx.Ra
  rw[hb]at hb2;cases hb2
  obtain⟨rfl,rfl⟩:=hsm hv.symm
  obtain⟨C,hC,hcl,hcs⟩:=(hI.blk id b hb).cells hmp
  have hcsz:=(hcs ci c hch).1
  have hall:=hy.cells hc
  have hal:=hall.length
  simp only[Yr]at hal
  have hci:ci<b.ch.length:=(Zb.1 hch).1
  have hbound:ci*b.sz+off+(ρ y).cells.toList.length<=C.size:=by
   have h1:(ci+1)*b.sz<=b.ch.length*b.sz:=Zn _ hci
   rw[ZJ]at h1
   simp only[Yr];omega
  have hrun:=run_storeCells_at P (μ id) (ci*b.sz+off) b.ty (ρ y).cells.toList 0 C w hC (by simpa using hbound) (fun v hv=>by
   obtain⟨k,hk⟩:=Z2.1 hv
   have hkl:k<cs.length:=by have:=(Zb.1 hk).1;simp at this;omega
   obtain⟨v',hv',hr'⟩:=hall.get k cs[k] (Zf hkl)
   rw[hk]at hv';cases hv';exact hr'.one)
  simp only[Yu]at hrun
  generalize hD:(List.take (ci*b.sz+off) C.toList++(ρ y).cells.toList++List.drop (ci*b.sz+off+(ρ y).cells.toList.length) C.toList).toArray=D at hrun
  have hDsz:D.size=C.size:=by rw[<-hD];simp at hbound⊢;omega
  have hDget:∀k,D[k]? =if k<ci*b.sz+off then C[k]? else if k<ci*b.sz+off+(ρ y).cells.toList.length then(ρ y).cells.toList[k-(ci*b.sz+off)]? else C[k]? :=by
   intro k
   rw[<-hD]
   have:=splice_get C.toList (ρ y).cells.toList (ci*b.sz+off) (by simpa using hbound) k
   simpa using this
  obtain⟨hf1,hf2,hf3⟩:=setRow_facts (w:=w) (μ id) C b.ty D hC
  obtain⟨hmono,hinv⟩:=U0 (w':=w.setRow (μ id) D) (g':=μ id) (b':={b with ch:=b.ch.set ci (c.take off++cs++c.drop (off+i.size))}) hI hb hmp hmp hfz hC hf1 (by rw[hf3];exact Zg _)
   (fun k _ hk=>hf2 k hk) (.inl rfl) (Zg _) (fun _=>⟨rfl,rfl,hDsz⟩) rfl rfl rfl
  refine⟨undef,w.setRow (μ id) D,_,.inr ⟨?_,rfl⟩,⟨[],rfl,.nil⟩,hinv ?_,hmono⟩
  ·simp only[execOp,ho]
   have hsz:(Go.sizeOf t).run P w=.ok i.size w:=by simp[Go.sizeOf,typeInfo,hi]
   rw[e]
   simp only[Instr.storeAt,Instr.sureAddr,Sem.run_bind,Sem.run_pure,Result.andThen_ok,storeVar,hsz]
   rw[if_neg (by omega)]
   rw[hrun];rfl
  ·refine X9.of_cells hmp ⟨D,by simpa using hf1,?_,fun k ck hk=> ?_⟩
   ·simp only[Z4];rw[hDsz];exact hcl
   ·by_cases ek:k=ci
    ·subst ek
     rw[Yf hci]at hk
     cases hk
     refine⟨by simp;omega,fun j d hj=> ?_⟩
     have htl:(c.take off).length=off:=by simp;omega
     show∃v,D[k*b.sz+j]? =some v/\_
     rw[hDget]
     rw[Zq]at hj
     by_cases h1:j<off
     ·rw[Zy (by omega),Z7,if_pos h1]at hj
      obtain⟨v,hv,hr⟩:=(hcs k c hch).2 j d hj
      rw[if_pos (by omega)]
      exact⟨v,hv,hr.mono hmono⟩
     ·rw[ZB (by omega),htl]at hj
      rw[if_neg (by omega)]
      by_cases h2:j<off+i.size
      ·rw[Zy (by omega)]at hj
       obtain⟨v,hv,hr⟩:=hall.get (j-off) d hj
       rw[if_pos (by simp only[Yr];omega)]
       exact⟨v,by rw[<-hv];congr 1;omega,hr.mono hmono⟩
      ·rw[ZB (by omega),Z8]at hj
       obtain⟨v,hv,hr⟩:=(hcs k c hch).2 j d (by rw[<-hj];congr 1;omega)
       rw[if_neg (by simp only[Yr];omega)]
       exact⟨v,hv,hr.mono hmono⟩
    ·rw[Zz (fun e=>ek e.symm)]at hk
     obtain⟨hl,hcells⟩:=hcs k ck hk
     refine⟨hl,fun j d hj=> ?_⟩
     have hjl:j<b.sz:=by have:=(Zb.1 hj).1;omega
     obtain⟨v,hv,hr⟩:=hcells j d hj
     refine⟨v,?_,hr.mono hmono⟩
     show D[k*b.sz+j]? =some v
     rw[hDget]
     rcases Nat.lt_or_gt_of_ne ek with hlt|hgt
     ·have:=Zn b.sz (show k+1<=ci by omega)
      rw[ZJ]at this
      rw[if_pos (by omega)];exact hv
     ·have:=Zn b.sz (show ci+1<=k by omega)
      rw[ZJ]at this
      rw[if_neg (by omega),if_neg (by simp only[Yr];omega)];exact hv
 ·simp at hr
end
end Go.Ev
namespace Go.Ev
section
variable {P:Program}{O:BS}{w:World}{μ:Nat->Nat}{h:HF}{n:Nat}
theorem UL {w':World}(hI:HInv w O μ h)(hsz:w.heap.size<=w'.heap.size)(hblk:∀k,k<w.heap.size->w'.heap[k]? =w.heap[k]?)(hos:w'.os=w.os)(hta:w'.tape=w.tape)(hou:w'.output=w.output):
  Mono O w μ h w' μ h/\HInv w' O μ h:=by
 have hm:Mono O w μ h w' μ h:=⟨hos,hta,hou,⟨hsz,fun k hk _=>hblk k hk,fun k hk=>.inl hk⟩,fun k hk=>hblk k (hI.lt k hk),
  fun id b hb=>⟨b,hb,Zg _,rfl,fun _=>⟨rfl,rfl,fun C T hC=>⟨C,by rw[hblk _ (hI.lt_size hb)];exact hC,rfl⟩⟩⟩,fun _ _ _ _=>rfl⟩
 exact⟨hm,⟨fun id b hb=>(hI.blk id b hb).mono hm (hblk _ (hI.lt_size hb)),hI.inj,hI.disj,fun k hk=>ZQ (hI.lt k hk) hsz⟩⟩
theorem src_cells (hI:HInv w O μ h){v:Value}{y:DL}{new:List (List DL)}{ids:List Nat}{sz:Nat}(hy:Xo w O μ h v (.one y))(hc:XX h y=some (new,ids))(hsz:∀c∈new,c.length=sz):
  (v=.slice none 0 0/\new=[])\/∃(ad:Addr) (c:Nat) (news:List Value),v=.slice (some ad) new.length c/\All2 (RepD w O μ h) news new.flatten/\∀(j:Nat) (u:Value),news[j]? =some u->w.cell? (ad.add j)=some u:=by
 unfold XX at hc
 split at hc
 ·simp only[Za,Zl]at hc;obtain⟨rfl,rfl⟩:=hc
  exact .inl ⟨hy.inv_nil,rfl⟩
 ·rename_i es
  simp only[Za,Zl]at hc;obtain⟨rfl,rfl⟩:=hc
  obtain⟨b,off,sz',cap,sp,e,hsp,hcap,hs,vals,hl,hcell,hp⟩:=hy.inv_lst
  right
  rcases hsp with rfl|rfl
  ·exact⟨⟨b,off,sp⟩,cap,[],by simpa using e,.nil,fun j u hu=>by simp at hu⟩
  refine⟨⟨b,off,none⟩,cap,?_⟩
  have hsz':es≠[]->sz'=sz:=by
   intro hne
   cases es with
   |nil=>exact absurd rfl hne
   |cons c cs=>rw[<-hs 0 c rfl];simpa using hsz (c.map .p) (by simp)
  obtain⟨xs,ha,hx⟩:=Rf (w:=w) (O:=O) (μ:=μ) (h:=h) (es.map (·.map DL.p)).flatten b off (by
   intro j d hj
   have hne:es≠[]:=by intro e0;subst e0;simp at hj
   have hall:∀c∈es.map (·.map DL.p),c.length=sz:=hsz
   have hjl:=(Zb.1 hj).1
   rw[X0 _ hall,ZU]at hjl
   have hsp:0<sz:=by
    rcases Z0 sz with h0|h0
    ·subst h0;omega
    ·exact h0
   have hq:j / sz<es.length:=by rw[Nat.div_lt_iff_lt_mul hsp];exact hjl
   have hr:j%sz<sz:=ZN _ hsp
   have hel:es[j / sz].length=sz:=(hs _ _ (Zf hq)).trans (hsz' hne)
   have hf:=Vh _ hall (j / sz) (es[j / sz].map DL.p) (j%sz) (.p (es[j / sz][j%sz]'(by omega))) (by simp[hq]) (by simp[hel,hr])
   rw[show j / sz*sz+j%sz=j from Nat.div_add_mod' j sz,hj]at hf
   cases hf
   refine⟨vals (j / sz) (j%sz),?_,.p _ _ (hp _ _ _ _ (Zf hq) (Zf (by omega)))⟩
   have:=hcell (j / sz) _ (j%sz) _ (Zf hq) (Zf (by omega))
   rw[hsz' hne]at this
   rw[<-this];congr 2
   have:=Nat.div_add_mod' j sz;omega)
  exact⟨xs,by simpa using e,ha,fun j u hu=>by rw[Vs];exact hx j u hu⟩
 ·rename_i id ver off len
  cases hb:h id with
  |none=>simp[hb]at hc
  |some b=>
  simp only[hb]at hc
  obtain⟨hcond,heq⟩:=Xk hc
  simp only[Zl]at heq;obtain⟨rfl,rfl⟩:=heq
  simp only[Zo]at hcond
  have hv:=Zj hcond.1.1
  have hm:b.mp=false:=by simpa using hcond.1.2
  have hle:=Wb hcond.2
  obtain⟨b2,g,q,cap,e,hb2,_,hcap,hsm⟩:=hy.UY
  rw[hb]at hb2;cases hb2
  obtain⟨rfl,C,T,hC,hd⟩:=hsm hv.symm
  obtain⟨C2,hC2,hcl,hcs⟩:=(hI.blk id b hb).cells hm
  rw[hC]at hC2;cases hC2
  have hlen:((b.ch.drop off).take len).length=len:=by simp;omega
  right
  refine⟨⟨μ id,q,none⟩,cap,?_⟩
  obtain⟨xs,ha,hx⟩:=Rf (w:=w) (O:=O) (μ:=μ) (h:=h) ((b.ch.drop off).take len).flatten (μ id) q (by
   intro j d hj
   have hjl:=(Zb.1 hj).1
   rw[X0 _ hsz,hlen]at hjl
   have hsp:0<sz:=by
    rcases Z0 sz with h0|h0
    ·subst h0;omega
    ·exact h0
   have hq:j / sz<len:=by rw[Nat.div_lt_iff_lt_mul hsp];exact hjl
   have hr:j%sz<sz:=ZN _ hsp
   have hidx:off+j / sz<b.ch.length:=by omega
   have hget:((b.ch.drop off).take len)[j / sz]? =some b.ch[off+j / sz]:=by
    rw[Z7,if_pos hq,Z8,Zf hidx]
   have hel:(b.ch[off+j / sz]).length=sz:=hsz _ (Zu hget)
   have hbs:b.sz=sz:=by rw[<-(hcs _ _ (Zf hidx)).1];exact hel
   have hf:=Vh _ hsz (j / sz) _ (j%sz) (b.ch[off+j / sz][j%sz]'(by omega)) hget (Zf (by omega))
   rw[show j / sz*sz+j%sz=j from Nat.div_add_mod' j sz,hj]at hf
   cases hf
   obtain⟨v,hv2,hr2⟩:=(hcs _ _ (Zf hidx)).2 (j%sz) _ (Zf (by omega))
   refine⟨v,?_,hr2⟩
   rcases hd with⟨ho,_,_⟩|⟨h0,_,_⟩
   ·simp only[World.cell?,hC]
    simp only[Option.isSome_none,Zs,if_false]
    rw[<-hv2,ho,hbs];congr 1
    have:=Nat.div_add_mod' j sz
    rw[ZJ];omega
   ·exact absurd hq (by rw[h0];exact Nat.not_lt_zero _))
  exact⟨xs,by rw[hlen];exact e,ha,fun j u hu=>by rw[Vs];exact hx j u hu⟩
 ·simp at hc
theorem all_len {sz:Nat}{new:List (List DL)}(hall:new.all (fun c=>Nat.beq c.length sz)=true):∀c∈new,c.length=sz:=by
 intro c hc
 exact Zj (ZP.1 hall c hc)
theorem all2_one {xs:List Value}{cs:List DL}(ha:All2 (RepD w O μ h) xs cs):∀u∈xs,u.oneCell'=true:=by
 induction ha with
 |nil=>simp
 |cons hx _ ih=>intro u hu;rcases Zk.1 hu with rfl|h1;exact hx.one;exact ih u h1
theorem SS (hI:HInv w O μ h){id:Nat}{b:Blk}{C:Array Value}(hb:h id=some b)(hmp:b.mp=false)(hfz:b.fz=false)(hC:w.heap[μ id]? =some (.cells C b.ty (0,0)))(p:Nat)(new:List (List DL))(hnl:∀c∈new,c.length=b.sz)
  (hle:p+new.length<=b.ch.length) (news:List Value) (hnews:All2 (RepD w O μ h) news new.flatten):
  (storeCells ⟨μ id,p*b.sz,none⟩ news).run P w=.ok () (w.setRow (μ id) (C.toList.take (p*b.sz)++news++C.toList.drop (p*b.sz+news.length)).toArray)/\
  Mono O w μ h (w.setRow (μ id) (C.toList.take (p*b.sz)++news++C.toList.drop (p*b.sz+news.length)).toArray) (fun x=>if x=id then μ id else μ x) (fun x=>if x=id then some {b with ch:=b.ch.take p++new++b.ch.drop (p+new.length)}else h x)/\
  HInv (w.setRow (μ id) (C.toList.take (p*b.sz)++news++C.toList.drop (p*b.sz+news.length)).toArray) O (fun x=>if x=id then μ id else μ x) (fun x=>if x=id then some {b with ch:=b.ch.take p++new++b.ch.drop (p+new.length)}else h x)/\
  ∃D:Array Value,(w.setRow (μ id) (C.toList.take (p*b.sz)++news++C.toList.drop (p*b.sz+news.length)).toArray).heap[μ id]? =some (.cells D b.ty (0,0))/\D.size=C.size:=by
 obtain⟨C2,hC2,hcl,hcs⟩:=(hI.blk id b hb).cells hmp
 rw[hC]at hC2;cases hC2
 have hfl:=X0 new hnl
 have hnlen:news.length=new.length*b.sz:=by rw[hnews.length,hfl]
 have hbound:p*b.sz+news.length<=C.size:=by
  have:=Zn b.sz hle
  rw[ZJ]at this;omega
 have hrun:=run_storeCells_at P (μ id) (p*b.sz) b.ty news 0 C w hC (by simpa using hbound) (all2_one hnews)
 simp only[Yu]at hrun
 generalize hD:(List.take (p*b.sz) C.toList++news++List.drop (p*b.sz+news.length) C.toList).toArray=D at hrun
 have hDsz:D.size=C.size:=by rw[<-hD];simp;omega
 have hDget:∀k,D[k]? =if k<p*b.sz then C[k]? else if k<p*b.sz+news.length then news[k-p*b.sz]? else C[k]? :=by
  intro k
  rw[<-hD]
  have:=splice_get C.toList news (p*b.sz) (by simpa using hbound) k
  simpa using this
 obtain⟨hf1,hf2,hf3⟩:=setRow_facts (w:=w) (μ id) C b.ty D hC
 obtain⟨hmono,hinv⟩:=U0 (w':=w.setRow (μ id) D) (g':=μ id) (b':={b with ch:=b.ch.take p++new++b.ch.drop (p+new.length)}) hI hb hmp hmp hfz hC hf1 (by rw[hf3];exact Zg _)
  (fun k _ hk=>hf2 k hk) (.inl rfl) (Zg _) (fun _=>⟨rfl,rfl,hDsz⟩) rfl rfl rfl
 refine⟨hrun,hmono,hinv ?_,D,hf1,hDsz⟩
 have htl:(b.ch.take p).length=p:=by simp;omega
 refine X9.of_cells hmp ⟨D,by simpa using hf1,?_,fun k ck hk=> ?_⟩
 ·simp only[Zm,List.length_drop,htl];rw[hDsz,show p+new.length+(b.ch.length-(p+new.length))=b.ch.length by omega];exact hcl
 ·simp only[Zq]at hk
  have old:b.ch[k]? =some ck->(k<p\/p+new.length<=k)->ck.length=b.sz/\∀(j:Nat) (d:DL),ck[j]? =some d->∃v,D[k*b.sz+j]? =some v/\RepD (w.setRow (μ id) D) O (fun x=>if x=id then μ id else μ x) (fun x=>if x=id then some {b with ch:=b.ch.take p++new++b.ch.drop (p+new.length)}else h x) v d:=by
   intro hk hpos
   obtain⟨hl,hcells⟩:=hcs k ck hk
   refine⟨hl,fun j d hj=> ?_⟩
   have hjl:j<b.sz:=by have:=(Zb.1 hj).1;omega
   obtain⟨v,hv,hr⟩:=hcells j d hj
   refine⟨v,?_,hr.mono hmono⟩
   rw[hDget]
   rcases hpos with h1|h1
   ·have:=Zn b.sz (show k+1<=p by omega)
    rw[ZJ]at this
    rw[if_pos (by omega)];exact hv
   ·have:=Zn b.sz h1
    rw[ZJ]at this
    rw[if_neg (by omega),if_neg (by omega)];exact hv
  by_cases h1:k<p
  ·rw[Zy (by omega),Z7,if_pos h1]at hk
   exact old hk (.inl h1)
  ·rw[ZB (by omega),htl]at hk
   by_cases h2:k<p+new.length
   ·rw[Zy (by omega)]at hk
    have hcl2:=hnl ck (Zu hk)
    refine⟨hcl2,fun j d hj=> ?_⟩
    have hjl:j<b.sz:=by have:=(Zb.1 hj).1;omega
    obtain⟨v,hv,hr⟩:=hnews.get _ _ (Vh _ hnl _ ck j d hk hj)
    refine⟨v,?_,hr.mono hmono⟩
    show D[k*b.sz+j]? =some v
    have e1:k*b.sz=p*b.sz+(k-p)*b.sz:=by rw[<-ZJ];congr 1;omega
    have e2:=Zn b.sz (show(k-p)+1<=new.length by omega)
    rw[ZJ]at e2
    rw[hDget,if_neg (by omega),if_pos (by omega),<-hv];congr 1;omega
   ·rw[ZB (by omega),Z8]at hk
    exact old (by rw[<-hk];congr 1;omega) (.inr (by omega))
theorem exec_clear (s:Operand)(t:TypeId)(ρ:Operand->Value)(o:Oper)(ho:o.op=.call ⟨.builtin .clear,#[s],#[t]⟩){v:Value}{w':World}
  (hr:(Builtin.clear_ #[t] o.type #[ρ s]).run P w=.ok v w'):(execOp ρ o).run P w=.ok (.value v) w':=by
 simp only[execOp,ho,resolve,invoke,builtin,Sem.run_bind,Sem.run_pure,Result.andThen_ok,List.map_toArray,Zx,ZZ,hr]
theorem sim_clear (t e:TypeId)(z:List PL)(base:Nat)(s:Operand)(ρ:Operand->Value)(o:Oper)(ho:o.op=.call ⟨.builtin .clear,#[s],#[t]⟩)(ht:P.underlying t=some (.slice e))(hz:zeroOf P e=some z)(hzp:0<z.length)
  (ds:DV) (hs:Xo w O μ h (ρ s) ds) (r:Res) (hr:TR base z h [ds]=some r) (hI:HInv w O μ h):WO O w μ h n ((execOp ρ o).run P w) r:=by
 unfold TR at hr
 split at hr
 ·rename_i id ver off len heq
  simp only[ZI,and_true]at heq;subst heq
  cases hb:h id with
  |none=>simp[hb]at hr
  |some b=>
  simp only[hb]at hr
  obtain⟨hcond,rfl⟩:=Xk hr
  simp only[Zo]at hcond
  obtain⟨⟨⟨⟨⟨hv,hmp⟩,hfz⟩,hbsz⟩,hle⟩,_⟩:=hcond
  have hv:=Zj hv;have hbsz:=Zj hbsz;have hle:=Wb hle
  have hmp:b.mp=false:=by simpa using hmp
  have hfz:b.fz=false:=by simpa using hfz
  obtain⟨i,zv,hi,hzv,hzl,hzs,hzr,hzrep⟩:=VF hz
  obtain⟨b2,g,q,cap,es,hb2,_,hcap,hsm⟩:=hs.UY
  rw[hb]at hb2;cases hb2
  obtain⟨rfl,C,T,hC,hd⟩:=hsm hv.symm
  obtain⟨C2,hC2,hcl,hcs⟩:=(hI.blk id b hb).cells hmp
  have hCb:w.heap[μ id]? =some (.cells C b.ty (0,0)):=by rw[hC]at hC2;cases hC2;exact hC
  have hnews:=made_all2 (w:=w) (O:=O) (μ:=μ) (h:=h) (hzrep w O μ h) hzp len
  obtain⟨hrun,hm,hinv,_⟩:=SS (P:=P) hI hb hmp hfz hCb off (List.replicate len (z.map .p)) (fun c hc=>by rw[List.eq_of_mem_replicate hc,hbsz];simp) (by simpa using hle) _ hnews
  simp only[List.length_replicate]at hm hinv
  refine⟨.tuple #[],_,_,.inl (exec_clear s t ρ o ho ?_),⟨[],rfl,.nil⟩,hinv,hm⟩
  rw[es]
  cases len with
  |zero=>
   have hnil:(madeCells zv.cells (0*z.length)).toList=[]:=by simp[madeCells]
   rw[hnil]at hrun⊢
   have e0:(storeCells ⟨μ id,off*b.sz,none⟩ []).run P w=.ok () w:=by simp[storeCells]
   rw[e0]at hrun
   simp only[Result.ok.injEq,true_and]at hrun
   rw[<-hrun]
   simp[Builtin.clear_,run_underlying ht]
  |succ m=>
   obtain⟨hq,_,_⟩:=hd.resolve_right (fun h0=>by omega)
   have e1:(Builtin.zeroCells zv.cells (m+1))=madeCells zv.cells ((m+1)*z.length):=by rw[hzl,<-hzs];rfl
   subst hq
   simp[Builtin.clear_,run_underlying ht,hzr,e1,hrun]
 ·simp at hr
theorem exec_copy (s x:Operand)(t u:TypeId)(ρ:Operand->Value)(o:Oper)(ho:o.op=.call ⟨.builtin .copy,#[s,x],#[t,u]⟩){v:Value}{w':World}
  (hr:(Builtin.copy_ #[t,u] o.type #[ρ s,ρ x]).run P w=.ok v w'):(execOp ρ o).run P w=.ok (.value v) w':=by
 simp only[execOp,ho,resolve,invoke,builtin,Sem.run_bind,Sem.run_pure,Result.andThen_ok,List.map_toArray,Zx,ZZ,hr]
theorem flatten_take {α:Type}{sz:Nat}:∀(L:List (List α)),(∀c∈L,c.length=sz)->∀m,(L.take m).flatten=L.flatten.take (m*sz)
 |[],_,m=>by simp
 |c::L,hL,0=>by simp
 |c::L,hL,m+1=>by
  have hc:=hL c (by simp)
  rw[List.take_succ_cons,List.flatten_cons,List.flatten_cons,flatten_take L (fun x hx=>hL x (by simp[hx])) m,ZJ,Z9,YI,<-hc,List.take_length_add_append]
theorem sim_copy (t e:TypeId)(i:TypeInfo)(base:Nat)(s x:Operand)(ρ:Operand->Value)(o:Oper)(ho:o.op=.call ⟨.builtin .copy,#[s,x],#[t,t]⟩)(ht:P.underlying t=some (.slice e))(hi:P.info? e=some i)
  (ds dx:DV) (hs:Xo w O μ h (ρ s) ds) (hx:Xo w O μ h (ρ x) dx) (r:Res) (hr:S5 base i.size h [ds,dx]=some r) (hI:HInv w O μ h):WO O w μ h n ((execOp ρ o).run P w) r:=by
 unfold S5 at hr
 split at hr
 ·rename_i id ver off len y heq
  simp only[ZI,and_true]at heq
  obtain⟨rfl,rfl⟩:=heq
  cases hb:h id with
  |none=>simp[hb]at hr
  |some b=>
  simp only[hb]at hr
  cases hc:XX h y with
  |none=>simp[hc]at hr
  |some q=>
  obtain⟨new,ids⟩:=q
  simp only[hc,copyIn]at hr
  obtain⟨hcond,rfl⟩:=Xk hr
  simp only[Zo]at hcond
  obtain⟨⟨⟨⟨⟨⟨hv,hmp⟩,hfz⟩,hbsz⟩,hle⟩,hall⟩,_⟩:=hcond
  have hv:=Zj hv;have hbsz:=Zj hbsz;have hle:=Wb hle
  have hmp:b.mp=false:=by simpa using hmp
  have hfz:b.fz=false:=by simpa using hfz
  have hnl:=all_len hall
  have hsrc:=src_cells hI hx hc hnl
  have hfl:=X0 new hnl
  obtain⟨b2,g,q,cap,es,hb2,_,hcap,hsm⟩:=hs.UY
  rw[hb]at hb2;cases hb2
  obtain⟨rfl,C,T,hC,hd⟩:=hsm hv.symm
  obtain⟨C2,hC2,hcl,hcs⟩:=(hI.blk id b hb).cells hmp
  have hCb:w.heap[μ id]? =some (.cells C b.ty (0,0)):=by rw[hC]at hC2;cases hC2;exact hC
  have hml:(new.take len).length=Nat.min len new.length:=ZK
  have hml2:Nat.min len new.length<=len:=Nat.min_le_left ..
  obtain⟨news,hnews,hlen,hfirst⟩:∃news,All2 (RepD w O μ h) news (new.take len).flatten/\(Builtin.lenOf (ρ x)).run P w=.ok new.length w/\(Builtin.firstCells i.size (Nat.min new.length len) (ρ x)).run P w=.ok news.toArray w:=by
   rcases hsrc with⟨ex,rfl⟩|⟨ad,c,news,ex,hnews,hcell⟩
   ·exact⟨[],by rw[List.take_nil];exact .nil,by rw[ex];rfl,by rw[ex];exact run_firstCells_none w i.size _ 0 0⟩
   ·refine⟨news.take (len*i.size),by rw[flatten_take new hnl];exact hnews.take _,by rw[ex];rfl,?_⟩
    rw[ex]
    refine run_firstCells_some w i.size _ ad new.length c (news.take (len*i.size)) ?_ fun j u hj=> ?_
    ·rw[ZK,hnews.length,hfl]
     rcases Nat.le_total len new.length with h1|h1
     ·rw[Yg (Zn _ h1),show Nat.min new.length len=len from Nat.min_eq_right h1]
     ·rw[Nat.min_eq_right (Zn _ h1),show Nat.min new.length len=new.length from Yg h1]
    ·rw[Z7]at hj
     split at hj
     ·exact hcell j u hj
     ·simp at hj
  obtain⟨hrun,hm,hinv,_⟩:=SS (P:=P) hI hb hmp hfz hCb off (new.take len) (fun c hc=>by rw[hnl c (YE hc),hbsz]) (by rw[hml];omega) news hnews
  rw[hml]at hm hinv
  refine⟨goInt (Nat.min new.length len:Nat),_,_,.inl (exec_copy s x t t ρ o ho ?_),?_,hinv,hm⟩
  ·rw[es]
   by_cases h0:Nat.min len new.length=0
   ·have hn0:news=[]:=by
     have:=hnews.length
     rw[X0 _ (fun c hc=>hnl c (YE hc)),hml,h0,YK]at this
     exact YB this
    subst hn0
    have e0:(storeCells ⟨μ id,off*b.sz,none⟩ []).run P w=.ok () w:=by simp[storeCells]
    rw[e0]at hrun
    simp only[Result.ok.injEq,true_and]at hrun
    rw[<-hrun]
    simp[Builtin.copy_,run_underlying ht,sizeOf,typeInfo,hi,hlen,hfirst,storeCells]
   ·have hlz:len=0->False:=fun h1=>h0 (by rw[h1];exact Nat.zero_min _)
    obtain⟨hq,_,_⟩:=hd.resolve_right (fun h0'=>hlz (by omega))
    subst hq
    simp[Builtin.copy_,run_underlying ht,sizeOf,typeInfo,hi,hlen,hfirst,hrun]
  ·have e1:Nat.min new.length len=Nat.min len new.length:=Nat.min_comm ..
   rw[e1]
   exact RepD.p _ _ (.int ..)
 ·simp at hr
theorem Te (s x:Operand)(t:TypeId)(ρ:Operand->Value)(o:Oper)(ho:o.op=.call ⟨.builtin .append,#[s,x],#[t,t]⟩){v:Value}{w':World}
  (hr:(Builtin.append_ #[t,t] o.type #[ρ s,ρ x]).run P w=.ok v w'):(execOp ρ o).run P w=.ok (.value v) w':=by
 simp only[execOp,ho,resolve,invoke,builtin,Sem.run_bind,Sem.run_pure,Result.andThen_ok,List.map_toArray,Zx,ZZ,hr]
theorem sim_append (t e:TypeId)(z:List PL)(i:TypeInfo)(base:Nat)(s x:Operand)(ρ:Operand->Value)(o:Oper)(ho:o.op=.call ⟨.builtin .append,#[s,x],#[t,t]⟩)(ht:P.underlying t=some (.slice e))(hz:zeroOf P e=some z)(hi:P.info? e=some i)(hzp:0<z.length)
  (ds dx:DV) (hs:Xo w O μ h (ρ s) ds) (hx:Xo w O μ h (ρ x) dx) (r:Res) (hr:Wk base e z.length i.bytes h n [ds,dx]=some r) (hn:r.al≠[]->h n=none) (hI:HInv w O μ h):WO O w μ h n ((execOp ρ o).run P w) r:=by
 cases ds with
 |agg _=>simp[Wk]at hr
 |tup _=>simp[Wk]at hr
 |one ls=>
 cases dx with
 |agg _=>simp[Wk]at hr
 |tup _=>simp[Wk]at hr
 |one lx=>
 simp only[Wk]at hr
 cases hc:XX h lx with
 |none=>simp[hc]at hr
 |some q=>
 obtain⟨new,ids⟩:=q
 simp only[hc]at hr
 obtain⟨hall,hr2⟩:=XA hr
 clear hr
 have hnl:=all_len hall
 obtain⟨i',zv,hi',hzv,hzl,hzs,hzr,hzrep⟩:=VF hz
 rw[hi]at hi';cases hi'
 have hsrc:=src_cells hI hx hc hnl
 have hfl:=X0 new hnl
 split at hr2
 ·
  have es:=hs.inv_nil
  unfold X8 at hr2
  obtain⟨hb,hr3⟩:=XA hr2
  simp only[Zo]at hb
  have hb1:=Wb hb.1;have hb2:=Wb hb.2
  unfold lim at hb1
  rcases hsrc with⟨ex,rfl⟩|⟨ad,c,news,ex,hnews,hcell⟩
  ·simp only[Za]at hr3;subst hr3
   refine Un hI (Te s x t ρ o ho (by rw[es,ex];exact run_append_owned_none w 0 t o.type e i z.length ht hi _ 0 [] (World.ownsRow_nil w 0 e z.length))) (RepD.p _ _ .nilS)
  ·have hnl2:news.length=new.length*z.length:=by rw[hnews.length,hfl]
   obtain⟨v',w',hrun,hown,hgr,hnil,hblk⟩:=run_append_own_at (P:=P) w 0 t o.type e i zv z.length i.bytes ht hi hzv hzl.symm rfl (by rw[hzs,hzl]) hzp (.slice none 0 0) 0 [] (World.ownsRow_nil w 0 e z.length) ad new.length c news hnl2 hcell (all2_one hnews)
    (by unfold maxLen;omega) (by simpa using hb1) (Zr _)
   have hex:=Te (P:=P) (w:=w) s x t ρ o ho (by rw[es,ex];exact hrun)
   simp only[ZY,ZL]at hown
   cases new with
   |nil=>
    simp only[Za]at hr3;subst hr3
    have hv':v'=.slice none 0 0:=hnil.2 ⟨rfl,rfl⟩
    subst hv'
    obtain⟨hm,hinv⟩:=UL (w':=w') hI hgr.size (fun k hk=>hgr.block k hk (by simp[Value.ownBlock])) hgr.os hgr.tape hgr.output
    exact⟨_,w',μ,.inl hex,RepD.p _ _ .nilS,hinv,hm⟩
   |cons c0 cs0=>
    simp only[Za]at hr3;subst hr3
    rcases hown.2 with⟨_,h0⟩|⟨g,cap,cur,rfl,_,hg,hnc,hcm,hcz,VY⟩
    ·simp at h0
    ·have hge:g=w.heap.size:=by
      rcases hblk with h1|h1
      ·simp[Value.ownBlock]at h1
      ·simpa[Value.ownBlock]using h1
     subst hge
     refine SV (w':=w') e z.length cap (c0::cs0).length cur (c0::cs0) ids rfl hnl hnc hcz.symm hcm ?_ (hn (by simp)) hI hg (fun k hk=>hgr.block k hk (by simp[Value.ownBlock])) hgr.os hgr.tape hgr.output hex
     intro k ck j d hk hj
     have hf:=Vh _ hnl k ck j d hk hj
     obtain⟨v,hv,hrep⟩:=hnews.get _ _ hf
     refine⟨v,?_,hrep⟩
     rw[<-VY,Z7]at hv
     split at hv
     ·simpa using hv
     ·simp at hv
 ·
  rename_i id ver len
  cases hb:h id with
  |none=>simp[hb]at hr2
  |some b=>
  simp only[hb]at hr2
  cases hq0:Nat.beq b.ch.length len with
  |false=>
   rw[hq0,cond_false,Tg]at hr2
   obtain⟨hcond,rfl⟩:=Xk hr2
   simp only[Zo]at hcond
   obtain⟨⟨⟨⟨⟨⟨hv,hmp⟩,hfz⟩,hroom⟩,hbsz⟩,hbty⟩,_⟩:=hcond
   have hv:=Zj hv;have hroom:=Wb hroom
   have hbsz:=Zj hbsz
   have hmp:b.mp=false:=by simpa using hmp
   have hfz:b.fz=false:=by simpa using hfz
   obtain⟨b2,g,q,cap,es,hb2,_,hcap,hsm⟩:=hs.UY
   rw[hb]at hb2;cases hb2
   obtain⟨rfl,C,T,hC,hd⟩:=hsm hv.symm
   obtain⟨C2,hC2,hcl,hcs⟩:=(hI.blk id b hb).cells hmp
   have hCb:w.heap[μ id]? =some (.cells C b.ty (0,0)):=by rw[hC]at hC2;cases hC2;exact hC
   obtain⟨hq,hcapz,hcapm⟩:=hd.resolve_right (fun h0=>by omega)
   simp only[YK,ZY]at hq hcapz
   subst hq
   have hcr:len+new.length<=cap:=by
    rw[hC]at hC2;cases hC2
    rw[<-hcapz]at hcl
    have:=Nat.le_of_mul_le_mul_right hcl (by omega:0<b.sz)
    omega
   obtain⟨news,hnews,hsrc2⟩:∃news,All2 (RepD w O μ h) news new.flatten/\Src P i.size t (ρ x) new.length news w:=by
    rcases hsrc with⟨ex,rfl⟩|⟨ad,c,news,ex,hnews,hcell⟩
    ·exact⟨[],.nil,by rw[ex];exact Src.ofNil w ht 0⟩
    ·refine⟨news,hnews,?_⟩
     rw[ex]
     exact Src.ofSlice w ht ad new.length c news (by rw[hnews.length,hfl,hzl]) hcell (all2_one hnews)
   obtain⟨hrun,hm,hinv,D,hD,hDs⟩:=SS (P:=P) hI hb hmp hfz hCb len new (fun c hc=>by rw[hnl c hc,hbsz]) hroom news hnews
   refine⟨.slice (some ⟨μ id,0,none⟩) (len+new.length) cap,_,_,.inl (Te s x t ρ o ho ?_),?_,hinv,hm⟩
   ·rw[es]
    rw[hbsz,hzl]at hrun
    rw[hbsz,hzl]
    simp[Builtin.append_,run_underlying ht,sizeOf,typeInfo,hi,hsrc2.len,hcr,hsrc2.cells,Addr.add_lit,hrun]
   ·refine RepD.own id ver 0 (len+new.length) _ _ _ _ (if_pos rfl) (by simp only[];omega) hcr fun _=>⟨by simp,D,b.ty,by simpa using hD,.inl ⟨by simp,?_,hcapm⟩⟩
    simp only[ZY];rw[hDs,hcapz]
  |true=>
  rw[hq0,cond_true,VX]at hr2
  obtain⟨hcond,rfl⟩:=Xk hr2
  simp only[Zo]at hcond
  obtain⟨⟨⟨⟨⟨⟨⟨⟨hv,hmp⟩,hfz⟩,hlen⟩,hbsz⟩,hbty⟩,_⟩,hby⟩,h63⟩:=hcond
  have hv:=Zj hv;have hlen:=Zj hlen
  have hbsz:=Zj hbsz;have hbty:=Zj hbty
  have hmp:b.mp=false:=by simpa using hmp
  have hfz:b.fz=false:=by simpa using hfz
  have hby:=Wb hby;have h63:=Wb h63
  unfold lim at hby
  obtain⟨b2,g,q,cap,es,hb2,_,hcap,hsm⟩:=hs.UY
  rw[hb]at hb2;cases hb2
  obtain⟨rfl,C,T,hC,hd⟩:=hsm hv.symm
  obtain⟨C2,hC2,hcl,hcs⟩:=(hI.blk id b hb).cells hmp
  rw[hC]at hC2;cases hC2
  obtain⟨hq,hcapz,hcapm⟩:=hd.resolve_right (fun h0=>by omega)
  simp only[YK,ZY]at hq hcapz
  subst hq
  have hchl:∀c∈b.ch,c.length=z.length:=by
   intro c hc'
   obtain⟨k,hk⟩:=Z2.1 hc'
   rw[(hcs k c hk).1,hbsz]
  rw[hbsz]at hcapz hcl
  have hown:w.ownsRow 0 e z.length (.slice (some ⟨μ id,0,none⟩) len cap) len (C.toList.take (len*z.length)):=by
   refine⟨?_,.inr ⟨μ id,cap,C,rfl,Zr _,by rw[hC,hbty],hcap,hcapm,hcapz.symm,rfl⟩⟩
   rw[ZK,Yr (xs:=C),<-hcapz]
   exact Yg (Zn _ hcap)
  have hfin:∀(v':Value) (w':World) (g' cap':Nat) (cur:Array Value) (news:List Value),(execOp ρ o).run P w=.ok (.value v') w'->v'=.slice (some ⟨g',0,none⟩) (len+new.length) cap'->w'.heap[g']? =some (.cells cur e (0,0))->
    len+new.length<=cap'->cap'<=maxLen->cur.size=cap'*z.length->cur.toList.take ((len+new.length)*z.length)=C.toList.take (len*z.length)++news->All2 (RepD w O μ h) news new.flatten->
    w.heap.size<=w'.heap.size->(∀k,k<w.heap.size->k≠μ id->w'.heap[k]? =w.heap[k]?)->(g'=μ id\/w.heap.size<=g')->w'.os=w.os->w'.tape=w.tape->w'.output=w.output->
    WO O w μ h n ((execOp ρ o).run P w) ⟨.one (.own id (ver+1) 0 (len+new.length)),[],[(id,{b with ver:=ver+1,ch:=b.ch++new})],id::ids⟩:=by
   intro v' w' g' cap' cur news hex hv' hg' hnc hcm hcz VY hnews hsz hoth hgg hos hta hou
   obtain⟨hm,hinv⟩:=U0 (w':=w') (g':=g') (C':=cur) (b':={b with ver:=ver+1,ch:=b.ch++new}) hI hb hmp hmp hfz (by rw[hC,hbty]:w.heap[μ id]? =some (.cells C b.ty (0,0))) (by rw[hg',hbty]) hsz hoth hgg (by simp only[];omega) (fun e=>by simp only[]at e;omega) hos hta hou
   refine⟨v',w',_,.inl hex,?_,hinv ?_,hm⟩
   ·subst hv'
    refine RepD.own id (ver+1) 0 (len+new.length) _ _ _ _ (if_pos rfl) (Zg _) hnc fun _=>⟨by simp,cur,e,by simpa using hg',.inl ⟨by simp,?_,hcm⟩⟩
    simp only[ZY,hbsz];exact hcz.symm
   ·refine X9.of_cells hmp ⟨cur,by simp only[if_true];rw[hg',hbty],?_,fun k ck hk=> ?_⟩
    ·simp only[Zm,hlen,hbsz];rw[hcz];exact Zn _ hnc
    ·have hckl:ck.length=z.length:=by
      rcases Z3.1 (Zu hk)with h1|h1
      ·exact hchl ck h1
      ·exact hnl ck h1
     refine⟨by rw[hckl,<-hbsz],fun j d hj=> ?_⟩
     have hjl:j<z.length:=by have:=(Zb.1 hj).1;omega
     have hkl:k<len+new.length:=by have:=(Zb.1 hk).1;simp at this;omega
     have hpos:k*z.length+j<(len+new.length)*z.length:=by
      have:=Zn z.length (show k+1<=len+new.length by omega)
      rw[ZJ]at this;omega
     have hcurg:∀v,(C.toList.take (len*z.length)++news)[k*z.length+j]? =some v->cur[k*z.length+j]? =some v:=by
      intro v hv2
      rw[<-VY,Z7,if_pos hpos]at hv2
      simpa using hv2
     have htl:(C.toList.take (len*z.length)).length=len*z.length:=by
      rw[ZK,Yr (xs:=C),<-hcapz];exact Yg (Zn _ hcap)
     show∃v,cur[k*b.sz+j]? =some v/\_
     rw[show k*b.sz+j=k*z.length+j by rw[hbsz]]
     by_cases hkc:k<len
     ·rw[Zy (by omega)]at hk
      obtain⟨v,hv2,hrep⟩:=(hcs k ck hk).2 j d hj
      rw[hbsz]at hv2
      have hp2:k*z.length+j<len*z.length:=by
       have:=Zn z.length (show k+1<=len by omega)
       rw[ZJ]at this;omega
      refine⟨v,hcurg v ?_,hrep.mono hm⟩
      rw[Zy (by omega),Z7,if_pos hp2]
      simpa using hv2
     ·rw[ZB (by omega)]at hk
      have hf:=Vh _ hnl _ ck j d hk hj
      obtain⟨v,hv2,hrep⟩:=hnews.get _ _ hf
      refine⟨v,hcurg v ?_,hrep.mono hm⟩
      have hge:len*z.length<=k*z.length:=Zn _ (by omega)
      rw[ZB (by omega),htl,<-hv2,hlen]
      congr 1
      rw[Nat.sub_mul];omega
  rcases hsrc with⟨ex,rfl⟩|⟨ad,c,news,ex,hnews,hcell⟩
  ·refine hfin _ w (μ id) cap C [] (Te s x t ρ o ho (by rw[es,ex];exact run_append_owned_none w 0 t o.type e i z.length ht hi _ len _ hown)) rfl (by rw[hC,hbty]) (by simpa using hcap) hcapm hcapz.symm (by simp) .nil (Zg _) (fun _ _ _=>rfl) (.inl rfl) rfl rfl rfl
  ·have hnl2:news.length=new.length*z.length:=by rw[hnews.length,hfl]
   obtain⟨v',w',hrun,hown',hgr,hnil,hblk⟩:=run_append_own_at (P:=P) w 0 t o.type e i zv z.length i.bytes ht hi hzv hzl.symm rfl (by rw[hzs,hzl]) hzp _ len _ hown ad new.length c news hnl2 hcell (all2_one hnews)
    (by unfold maxLen;omega) hby (Zr _)
   have hex:=Te (P:=P) (w:=w) s x t ρ o ho (by rw[es,ex];exact hrun)
   rcases hown'.2 with⟨h1,_⟩|⟨g',cap',cur,rfl,_,hg',hnc,hcm,hcz,VY⟩
   ·have:=(hnil.1 h1).1;simp at this
   ·refine hfin _ w' g' cap' cur news hex rfl hg' hnc hcm hcz VY hnews hgr.size (fun k hk hne=>hgr.block k hk (by simp[Value.ownBlock];exact hne)) ?_ hgr.os hgr.tape hgr.output
    rcases hblk with h1|h1
    ·left;simpa[Value.ownBlock]using h1
    ·right;have :g'=w.heap.size:=by simpa[Value.ownBlock]using h1
     omega
 ·simp at hr2
end
end Go.Ev
