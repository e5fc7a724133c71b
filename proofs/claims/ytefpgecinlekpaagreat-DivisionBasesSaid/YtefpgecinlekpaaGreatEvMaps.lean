/- Operations on maps whose keys are rows of integers. -/
import Derived.Test.YtefpgecinlekpaaGreatEvHeap
import Derived.MapKept
import Derived.WideKeyRuns
namespace Go.Ev
section
variable {P:Program}{O:BS}{w:World}{μ:Nat->Nat}{h:HF}{n:Nat}
theorem keyOfT_spec {t:TypeId}{m:Nat}{k:IntKind}(hk:keyOfT P t=some (m,k)):∃e i,P.underlying t=some (.array m e)/\P.underlying e=some (.int k)/\P.info? e=some i/\i.size=1:=by
 unfold keyOfT at hk
 split at hk
 ·rename_i m' e hu
  split at hk<;>simp only[Za,reduceCtorEq,Zl]at hk
  rename_i k' he hs
  obtain⟨rfl,rfl⟩:=hk
  unfold XQ at hs
  cases hi:P.info? e with
  |none=>simp[hi]at hs
  |some i=>exact⟨e,i,hu,he,hi,by simpa[hi]using hs⟩
 ·simp at hk
theorem SY {t:TypeId}{d:TypeDesc}(hu:P.underlying t=some d):(underlying t).run P w=.ok d w:=by simp[underlying,hu]
theorem TN (em:Bool)(t e:TypeId)(m:Nat)(k:IntKind)(i:TypeInfo)(ht:P.underlying t=some (.array m e))(he:P.underlying e=some (.int k))(hi:P.info? e=some i)(hs:i.size=1)(as:List Int)(hl:as.length=m):
  (Instr.checkKey em 10000 t (.agg (as.map (Value.int k)).toArray)).run P w=.ok () w:=by
 show(Instr.checkKey em (9999+1) t _).run P w=_
 rw[Instr.checkKey]
 simp only[Sem.run_bind,SY ht,Result.andThen_ok]
 simp only[Std.Legacy.Range.forIn_eq_forIn_range',Std.Legacy.Range.size,Nat.sub_zero,Nat.add_one_sub_one,Nat.div_one]
 have hc:P.cellsOf e=1:=by simp[Program.cellsOf,hi,hs]
 have each:∀j∈List.range' 0 m,j<as.length:=fun j hj=>by
  rw[List.mem_range'_1]at hj;omega
 generalize List.range' 0 m=is at each
 induction is with
 |nil=>simp
 |cons s is ih=>
  have h1:s<as.length:=each s (by simp)
  have hck:(Instr.checkKey em 9999 e (.int k as[s])).run P w=.ok () w:=by
   show(Instr.checkKey em (9998+1) e _).run P w=_
   rw[Instr.checkKey]
   simp only[Sem.run_bind,SY he,Result.andThen_ok]
   rfl
  simp only[List.forIn_cons,Sem.run_bind,run_sizeOf w hi,Result.andThen_ok,hc,Yd,SZ e k he as s _ (Zf h1),hck,Sem.run_pure]
  exact ih fun j hj=>each j (by simp[hj])
theorem run_equal_ints (t e:TypeId)(m:Nat)(k:IntKind)(i:TypeInfo)(ht:P.underlying t=some (.array m e))(he:P.underlying e=some (.int k))(hi:P.info? e=some i)(hs:i.size=1)(as bs:List Int)(ha:as.length=m)(hl:as.length=bs.length):
  (Op.equal t (.agg (as.map (Value.int k)).toArray) (.agg (bs.map (Value.int k)).toArray)).run P w=.ok (as==bs) w:=by
 have hc:P.cellsOf e=1:=by simp[Program.cellsOf,hi,hs]
 show(Op.equalIn (9999+1) t _ _).run P w=_
 rw[run_equalIn_array w 9999 _ _ ht hi,hc,List.range_eq_range']
 have:=Sn (P:=P) (w:=w) 9998 e k he as bs hl m 0 (by omega)
 simpa using this
def EntOk (w:World)(O:BS)(μ:Nat->Nat)(h:HF)(b:Blk)(e:MapEntry)(c:List DL):Prop:=
 ∃kv xv:List Value,e.key=.agg kv.toArray/\ValOf (Nat.beq b.ty 1) e.val xv/\kv.length=b.sz/\All2 (RepD w O μ h) (kv++xv) c
theorem X9.map {id:Nat}{b:Blk}(hb:X9 w O μ h id b)(hm:b.mp=true)(hty:Nat.beq b.ty 2=false):∃(es:Array MapEntry) (clk:Nat),w.heap[μ id]? =some (.map es clk)/\(b.ver=0/\Born es.toList clk)/\All2 (EntOk w O μ h b) es.toList b.ch:=by
 unfold X9 at hb;rw[hm,if_pos rfl,hty,if_neg (by simp)]at hb;exact hb
theorem X9.of_map {id:Nat}{b:Blk}(hm:b.mp=true)(hty:Nat.beq b.ty 2=false)(hb:∃(es:Array MapEntry) (clk:Nat),w.heap[μ id]? =some (.map es clk)/\(b.ver=0/\Born es.toList clk)/\All2 (EntOk w O μ h b) es.toList b.ch):X9 w O μ h id b:=by
 unfold X9;rw[hm,if_pos rfl,hty,if_neg (by simp)];exact hb
theorem run_findAsk (t e:TypeId)(m:Nat)(k:IntKind)(i:TypeInfo)(ht:P.underlying t=some (.array m e))(he:P.underlying e=some (.int k))(hi:P.info? e=some i)(hs:i.size=1)(b:Blk)(hsz:b.sz=m)
  (kc:List DL) (kv:List Value) (hkv:All2 (RepD w O μ h) kv kc) (hkl:kc.length=m):∀(es:List MapEntry) (ch:List (List DL)) (j:Nat) (r:Option (Nat×List DL)),All2 (EntOk w O μ h b) es ch->findC k m kc ch j=some r->
   (r=none/\(Instr.findAsking t (.agg kv.toArray) es j).run P w=.ok none w)\/
   (∃q en c,r=some (j+q,c)/\es[q]? =some en/\ch[q]? =some c/\(Instr.findAsking t (.agg kv.toArray) es j).run P w=.ok (some (j+q,en.val)) w/\en.key=.agg kv.toArray)
 |[],ch,j,r,ha,hf=>by
  cases ha
  simp only[findC,Za]at hf
  exact .inl ⟨hf.symm,by simp[Instr.findAsking]⟩
 |en::es,ch,j,r,ha,hf=>by
  cases ha with
  |@cons _ c _ cs hen hrest=>
  obtain⟨ekv,exv,h1,h2,h3,h4⟩:=hen
  simp only[findC]at hf
  have hall:=h4.take m
  rw[List.take_append_of_le_length (by omega),Ze (by omega)]at hall
  cases hb:XO k kc (c.take m)with
  |none=>simp[hb]at hf
  |some bb=>
  obtain⟨as,bs,rfl,rfl,hl,rfl⟩:=eqInts_spec hb hkv hall
  have hal:as.length=m:=by have:=hkv.length;simp at this;omega
  have hE:=run_equal_ints (P:=P) (w:=w) t e m k i ht he hi hs as bs hal hl
  cases hab:(as==bs)with
  |true=>
   simp only[hb,hab,Za]at hf;subst hf
   right
   have hE2:as=bs:=by simpa using hab
   refine⟨0,en,c,by simp,rfl,rfl,?_,by rw[h1,hE2]⟩
   simp only[Instr.findAsking,Sem.run_bind,h1,hE,Result.andThen_ok,hab,if_true,Sem.run_pure,Yu]
  |false=>
   simp only[hb,hab]at hf
   have step:(Instr.findAsking t (.agg (as.map (Value.int k)).toArray) (en::es) j).run P w=(Instr.findAsking t (.agg (as.map (Value.int k)).toArray) es (j+1)).run P w:=by
    simp only[Instr.findAsking,Sem.run_bind,h1,hE,Result.andThen_ok,hab,Zs,if_false]
   rcases run_findAsk t e m k i ht he hi hs b hsz kc _ hkv hkl es cs (j+1) r hrest hf with⟨h5,h6⟩|⟨q,en',c',h5,h6,h7,h8,h9⟩
   ·exact .inl ⟨h5,step.trans h6⟩
   ·right
    refine⟨q+1,en',c',by rw[h5];congr 2;omega,by simpa using h6,by simpa using h7,?_,h9⟩
    rw[step,h8];congr 3;omega
theorem run_findKeyA (t e:TypeId)(m:Nat)(ht:P.underlying t=some (.array m e))(x:Value)(es:List MapEntry):(Instr.findKey t x es).run P w=(Instr.findAsking t x es).run P w:=
 run_findKey_eq w (by rw[ht]) x es
theorem ints_of_self {k:IntKind}{kc:List DL}{kv:List Value}(hs:(XO k kc kc).isSome=true)(ha:All2 (RepD w O μ h) kv kc):∃as:List Int,kv=as.map (Value.int k):=by
 cases hb:XO k kc kc with
 |none=>rw[hb]at hs;cases hs
 |some b=>
  obtain⟨as,bs,h1,_,_,_⟩:=eqInts_spec hb ha ha
  exact⟨as,h1⟩
theorem asVal_rep {agg:Bool}{v:Value}{xv:List Value}{xs:List DL}{d:DV}(hv:ValOf agg v xv)(ha:All2 (RepD w O μ h) xv xs)(hd:asVal agg xs=some d):WS w O μ h v d/\d.plain=true:=by
 unfold asVal at hd
 cases agg with
 |true=>
  simp only[cond_true,Za]at hd;subst hd
  simp only[ValOf,if_true]at hv
  exact⟨⟨xv,hv,ha⟩,rfl⟩
 |false=>
  simp only[cond_false]at hd
  simp only[ValOf,Zs,if_false]at hv
  subst hv
  cases ha with
  |@cons _ x _ xs h1 h2=>
   cases h2
   simp only[Za]at hd;subst hd
   exact⟨h1,rfl⟩
theorem aggN_two (agg:Bool):Nat.beq (aggN agg) 2=false:=by cases agg<;>rfl
theorem aggN_beq (agg:Bool):Nat.beq (aggN agg) 1=agg:=by cases agg<;>rfl
theorem cells_one {v:Value}(h1:v.oneCell'=true):v.cells.toList=[v]:=by
 have :v.cells=#[v]:=by cases v<;>first |rfl|simp[Value.oneCell']at h1
 rw[this]
theorem zero_valOf {e:TypeId}{agg:Bool}{i:TypeInfo}{zv:Value}(ha:Sg P e=some agg)(hi:P.info? e=some i)(hz:i.zero=some zv):ValOf agg zv zv.cells.toList:=by
 unfold Sg at ha
 simp only[hi,hz]at ha
 split at ha
 ·rename_i xs heq
  simp only[Za]at heq ha;subst heq;subst ha
  simp[ValOf,Value.cells]
 ·rename_i v _ heq
  simp only[Za]at heq;subst heq
  split at ha<;>simp only[Za,reduceCtorEq]at ha
  rename_i h1
  subst ha
  simp only[ValOf,Zs,if_false]
  exact cells_one h1
 ·rename_i heq;cases heq
theorem rep_tup2 {v1 v2:Value}{d1 d2:DV}(h1:WS w O μ h v1 d1)(h2:WS w O μ h v2 d2):Xo w O μ h (.tuple #[v1,v2]) (.tup [d1,d2]):=⟨[v1,v2],rfl,.cons h1 (.cons h2 .nil)⟩
theorem sim_makeMap (t:TypeId)(klen:Nat)(agg:Bool)(ρ:Operand->Value)(o:Oper)(ho:o.op=.makeMap t none)(r:Res)(hr:UI klen agg n []=some r)(hn:h n=none)(hI:HInv w O μ h):WO O w μ h n ((execOp ρ o).run P w) r:=by
 simp only[UI,Za]at hr;subst hr
 obtain⟨hm,hinv⟩:=T8 (w':=w.alloc (.map #[] 0)) (n:=n) hI hn ⟨false,0,klen,[],true,aggN agg⟩ (by simp) (fun k hk=>RowKit.Below.heap_alloc _ _ _ hk) rfl rfl rfl
 refine⟨.map (some w.heap.size),w.alloc (.map #[] 0),_,.inl ?_,?_,hinv ?_,hm⟩
 ·simp only[execOp,ho]
  exact X1 (by simp[Instr.makeMap,newObj,go_sem];rfl)
 ·have:=RepD.mp (w:=w.alloc (.map #[] 0)) (O:=O) (μ:=fun id=>if id=n then w.heap.size else μ id) (h:=fun x=>if x=n then some ⟨false,0,klen,[],true,aggN agg⟩else h x) n ⟨false,0,klen,[],true,aggN agg⟩ (if_pos rfl) rfl
  simp only[if_true]at this
  exact this
 ·refine X9.of_map rfl (aggN_two agg) ⟨#[],0,?_,⟨rfl,.nil,fun e he=>by simp at he⟩,.nil⟩
  simp only[if_true];exact heap_alloc_new w _
theorem sim_lookup (t kt e te:TypeId)(m:Nat)(k:IntKind)(i:TypeInfo)(agg ok:Bool)(z:List PL)(x y:Operand)(ρ:Operand->Value)(o:Oper)(ho:o.op=.lookup t x y ok)(ht:P.underlying t=some (.map kt e))
  (hk:P.underlying kt=some (.array m te)) (he:P.underlying te=some (.int k)) (hi:P.info? te=some i) (hs:i.size=1) (hzk:Sg P e=some agg) (hz:zeroOf P e=some z)
  (dx dy:DV) (hx:Xo w O μ h (ρ x) dx) (hy:Xo w O μ h (ρ y) dy) (r:Res) (hr:TE m k agg z ok h [dx,dy]=some r) (hI:HInv w O μ h):WO O w μ h n ((execOp ρ o).run P w) r:=by
 unfold TE at hr
 split at hr
 ·rename_i id kc heq
  simp only[ZI,and_true]at heq;obtain⟨rfl,rfl⟩:=heq
  cases hb:h id with
  |none=>simp[hb]at hr
  |some b=>
  simp only[hb,lookIn]at hr
  obtain⟨hc,hr⟩:=XA hr
  simp only[Zo]at hc
  obtain⟨⟨⟨⟨hmp,hsz⟩,hkl⟩,hty⟩,hself⟩:=hc
  have hsz:=Zj hsz
  have hkl:=Zj hkl
  have hty:=Zj hty
  cases hf:findC k m kc b.ch 0 with
  |none=>simp[hf]at hr
  |some q=>
  simp only[hf]at hr
  cases hfv:foundV m agg z q with
  |none=>simp[hfv]at hr
  |some dv=>
  simp only[hfv,Za]at hr;subst hr
  obtain⟨es,clk,hE,_,hall⟩:=(hI.blk id b hb).map hmp (by rw[hty];exact aggN_two agg)
  obtain⟨kv,ey,hkv⟩:=hy
  obtain⟨as,has⟩:=ints_of_self hself hkv
  have hal:as.length=m:=by have:=hkv.length;rw[has]at this;simp at this;omega
  have hxm:ρ x=.map (some (μ id)):=by
   have hx':RepD w O μ h (ρ x) (.mp id):=hx
   generalize ρ x=v at hx'
   cases hx' with
   |mp _ _ _ _=>rfl
  have hck:∀em,(Instr.checkKey em 10000 kt (ρ y)).run P w=.ok () w:=fun em=>by
   rw[ey,has];exact TN em kt te m k i hk he hi hs as hal
  obtain⟨iz,zv,hiz,hzz,_,_,hzrun,hzrep⟩:=VF hz
  have hfk:∀a,(Instr.findAsking kt (.agg kv.toArray) es.toList 0).run P w=.ok a w->(Instr.findKey kt (ρ y) es.toList).run P w=.ok a w:=fun a ha=>by
   rw[ey,run_findKeyA kt te m hk];exact ha
  have fin:∀(v:Value) (okv:Bool),(Instr.lookup t (ρ x) (ρ y) ok).run P w=.ok (if ok then .tuple #[v,.bool okv]else v) w->okv=q.isSome->WS w O μ h v dv->WO O w μ h n ((execOp ρ o).run P w) ⟨bif ok then .tup [dv,.one (.p (.bool q.isSome))]else dv,[],[],[id]⟩:=by
   intro v okv hrun hokv hrep
   refine Un (v:=if ok then .tuple #[v,.bool okv]else v) hI ?_ ?_
   ·simp only[execOp,ho]
    exact X1 hrun
   ·cases ok with
    |true=>exact rep_tup2 hrep (by rw[hokv];exact RepD.p _ _ (.bool _))
    |false=>exact Xo.of1 hrep
  rcases run_findAsk (P:=P) kt te m k i hk he hi hs b hsz kc kv hkv hkl es.toList b.ch 0 q hall hf with⟨rfl,hrun⟩|⟨qi,en,c,rfl,hen,hcc,hrun,_⟩
  ·have hf1:=hfk _ hrun
   refine fin zv false ?_ rfl ?_
   ·simp[Instr.lookup,SY ht,hxm,MapKept.run_getObj_map hE,hck,hf1,hzrun,Result.andThen]
   ·exact(asVal_rep (zero_valOf hzk hiz hzz) (hzrep w O μ h) hfv).1
  ·have hf1:=hfk _ hrun
   refine fin en.val true ?_ rfl ?_
   ·simp[Instr.lookup,SY ht,hxm,MapKept.run_getObj_map hE,hck,hf1,Result.andThen]
   ·obtain⟨en',hen',ekv,exv,h1,h2,h3,h4⟩:=hall.get qi c hcc
    rw[hen]at hen';cases hen'
    have:=h4.drop m
    rw[List.drop_append_of_le_length (by omega),Zp (by omega),ZL]at this
    rw[hty,aggN_beq]at h2
    exact(asVal_rep h2 this hfv).1
 ·simp at hr
theorem map_write {w':World}(hI:HInv w O μ h){id:Nat}{b b':Blk}{es es':Array MapEntry}{clk clk':Nat}(hb:h id=some b)(hm:b.mp=true)(hm':b'.mp=true)(hfz:b.fz=false)(hver:b'.ver=b.ver)(hsz:b'.sz=b.sz)
  (hC:w.heap[μ id]? =some (.map es clk)) (hC':w'.heap[μ id]? =some (.map es' clk')) (hsize:w'.heap.size=w.heap.size) (hoth:∀k,k≠μ id->w'.heap[k]? =w.heap[k]?) (hos:w'.os=w.os) (hta:w'.tape=w.tape) (hou:w'.output=w.output):
  Mono O w μ h w' μ (fun x=>if x=id then some b' else h x)/\(X9 w' O μ (fun x=>if x=id then some b' else h x) id b'->HInv w' O μ (fun x=>if x=id then some b' else h x)):=by
 have hlive:Live O μ h (μ id):=.inr ⟨id,b,hb,hfz,rfl⟩
 have hne:∀id2 x,h id2=some x->id2≠id->μ id2≠μ id:=fun id2 x hx hn e=>hn (hI.inj id2 id x b hx hb e)
 have hmn:Mono O w μ h w' μ (fun x=>if x=id then some b' else h x):=by
  refine⟨hos,hta,hou,⟨by omega,fun k hk hl=>hoth k fun e=>hl (e▸hlive),fun k hk=> ?_⟩,fun k hk=>hoth k fun e=>hI.disj id b hb (e▸hk),fun id2 x hx=> ?_,fun id2 x hx hmx=>rfl⟩
  ·rcases hk with hk|⟨id2,blk,hid,hf,he⟩
   ·exact .inl (.inl hk)
   ·by_cases e:id2=id
    ·subst e;left;rw[<-he];exact hlive
    ·simp only[e,if_false]at hid
     exact .inl (.inr ⟨id2,blk,hid,hf,he⟩)
  ·by_cases e:id2=id
   ·subst e
    rw[hb]at hx;cases hx
    refine⟨b',by simp,by omega,by rw[hm,hm'],fun _=>⟨rfl,hsz,fun D T hD=> ?_⟩⟩
    rw[hC]at hD;cases hD
   ·refine⟨x,by simp[e,hx],Zg _,rfl,fun _=>⟨rfl,rfl,fun D T hD=>⟨D,?_,rfl⟩⟩⟩
    rw[hoth _ (hne id2 x hx e)];exact hD
 refine⟨hmn,fun hB=>⟨fun id2 x hx=> ?_,fun i1 i2 x y hx hy he=> ?_,fun id2 x hx=> ?_,fun k hk=>by rw[hsize];exact hI.lt k hk⟩⟩
 ·by_cases e:id2=id
  ·subst e;simp at hx;subst hx;exact hB
  ·simp only[e,if_false]at hx
   exact(hI.blk id2 x hx).mono hmn (hoth _ (hne id2 x hx e))
 ·have some_of:∀i x,(if i=id then some b' else h i)=some x->∃y,h i=some y:=fun i x hx=>by
   by_cases e:i=id
   ·subst e;exact⟨b,hb⟩
   ·simp only[e,if_false]at hx;exact⟨x,hx⟩
  obtain⟨x',hx'⟩:=some_of i1 x hx
  obtain⟨y',hy'⟩:=some_of i2 y hy
  exact hI.inj i1 i2 x' y' hx' hy' he
 ·by_cases e:id2=id
  ·subst e;exact hI.disj id2 b hb
  ·simp only[e,if_false]at hx
   exact hI.disj id2 x hx
theorem sameBits_ints (k:IntKind)(as:List Int):Instr.sameBits 10000 (.agg (as.map (Value.int k)).toArray) (.agg (as.map (Value.int k)).toArray)=true:=by
 show Instr.sameBits (9999+1) _ _=true
 simp only[Instr.sameBits,beq_self_eq_true,Bool.true_and,ZP]
 intro q hq
 have :∀(l:List Value),(∀v∈l,∃a,v=.int k a)->∀q∈l.zip l,Instr.sameBits 9999 q.1 q.2=true:=by
  intro l
  induction l with
  |nil=>intro _ q hq;simp at hq
  |cons v l ih=>
   intro hl q hq
   simp only[List.zip_cons_cons,Zk]at hq
   rcases hq with rfl|hq
   ·obtain⟨a,rfl⟩:=hl v (by simp)
    simp[Instr.sameBits]
   ·exact ih (fun x hx=>hl x (by simp[hx])) q hq
 exact this (as.map (Value.int k)) (fun v hv=>by obtain⟨a,_,rfl⟩:=ZM.1 hv;exact⟨a,rfl⟩) q hq
theorem All2.set {α β:Type}{R:α->β->Prop}{xs:List α}{ys:List β}(ha:All2 R xs ys)(q:Nat)(x:α)(y:β)(hr:R x y):All2 R (xs.set q x) (ys.set q y):=by
 induction ha generalizing q with
 |nil=>simpa using All2.nil
 |cons h1 h2 ih=>cases q with
  |zero=>exact .cons hr h2
  |succ q=>exact .cons h1 (ih q)
theorem modify_set {α:Type}(f:α->α):∀(l:List α) (q:Nat) (x:α),l[q]? =some x->l.modify q f=l.set q (f x)
 |[],q,x,h=>by simp at h
 |y::l,0,x,h=>by simp at h;subst h;rfl
 |y::l,q+1,x,h=>by
  simp only[List.modify_succ_cons,List.set_cons_succ]
  rw[modify_set f l q x (by simpa using h)]
theorem TA {α:Type}:∀(l:List α) (q:Nat) (x:α),l[q]? =some x->l.set q x=l
 |[],q,x,h=>by simp at h
 |y::l,0,x,h=>by simp at h;subst h;rfl
 |y::l,q+1,x,h=>by
  simp only[List.set_cons_succ]
  rw[TA l q x (by simpa using h)]
theorem born_same {l l':List MapEntry}{clk:Nat}(e:l.map (·.born)=l'.map (·.born))(hb:Born l clk):Born l' clk:=by
 refine⟨?_,fun x hx=> ?_⟩
 ·have h1:(l.map (·.born)).Pairwise (·≠·):=List.pairwise_map.2 hb.1
  rw[e]at h1
  exact List.pairwise_map.1 h1
 ·have :x.born∈l.map (·.born):=by rw[e];exact ZM.2 ⟨x,hx,rfl⟩
  obtain⟨y,hy,hxy⟩:=ZM.1 this
  rw[<-hxy];exact hb.2 y hy
theorem sim_mapUpdate (t kt e te:TypeId)(m vsz:Nat)(k:IntKind)(i:TypeInfo)(agg:Bool)(x y v:Operand)(ρ:Operand->Value)(o:Oper)(ho:o.op=.mapUpdate t x y v)(ht:P.underlying t=some (.map kt e))
  (hk:P.underlying kt=some (.array m te)) (he:P.underlying te=some (.int k)) (hi:P.info? te=some i) (hs:i.size=1)
  (dx dy dv:DV) (hx:Xo w O μ h (ρ x) dx) (hy:Xo w O μ h (ρ y) dy) (hv:Xo w O μ h (ρ v) dv) (r:Res) (hr:VL m k agg vsz h [dx,dy,dv]=some r) (hI:HInv w O μ h):WO O w μ h n ((execOp ρ o).run P w) r:=by
 unfold VL at hr
 split at hr
 ·rename_i id kc dv' heq
  simp only[ZI,and_true]at heq;obtain⟨rfl,rfl,rfl⟩:=heq
  cases hb:h id with
  |none=>simp[hb]at hr
  |some b=>
  simp only[hb]at hr
  cases hxc:dv.cells with
  |none=>simp[hxc]at hr
  |some xc=>
  simp only[hxc]at hr
  obtain⟨hc,hr⟩:=XA hr
  simp only[Zo]at hc
  obtain⟨⟨⟨⟨⟨⟨⟨hmp,hfz⟩,hsz⟩,hkl⟩,_⟩,hty⟩,hisa⟩,hself⟩:=hc
  have hsz:=Zj hsz
  have hkl:=Zj hkl
  have hty:=Zj hty
  have hfz:b.fz=false:=by simpa using hfz
  obtain⟨es,clk,hE,⟨hv0,hborn⟩,hall⟩:=(hI.blk id b hb).map hmp (by rw[hty];exact aggN_two agg)
  obtain⟨kv,ey,hkv⟩:=hy
  obtain⟨as,has⟩:=ints_of_self hself hkv
  have hal:as.length=m:=by have:=hkv.length;rw[has]at this;simp at this;omega
  have hxm:ρ x=.map (some (μ id)):=by
   have hx':RepD w O μ h (ρ x) (.mp id):=hx
   generalize ρ x=v at hx'
   cases hx' with
   |mp _ _ _ _=>rfl
  have hck:∀em,(Instr.checkKey em 10000 kt (ρ y)).run P w=.ok () w:=fun em=>by
   rw[ey,has];exact TN em kt te m k i hk he hi hs as hal
  have hfk:∀a,(Instr.findAsking kt (.agg kv.toArray) es.toList 0).run P w=.ok a w->(Instr.findKey kt (ρ y) es.toList).run P w=.ok a w:=fun a ha=>by
   rw[ey,run_findKeyA kt te m hk];exact ha
  have hvals:=hv.cells hxc
  have hval:ValOf (Nat.beq b.ty 1) (ρ v) (ρ v).cells.toList:=by
   rw[hty,aggN_beq]
   cases dv with
   |one l=>
    have :agg=false:=by simpa[DV.isAgg]using hisa
    subst this
    simp only[ValOf,Zs,if_false]
    exact cells_one (RepD.one hv)
   |agg cs=>
    have :agg=true:=by simpa[DV.isAgg]using hisa
    subst this
    obtain⟨xs,ev,_⟩:=hv
    simp only[ValOf,if_true]
    rw[ev];simp[Value.cells]
   |tup ds=>simp[DV.cells]at hxc
  have hkvl:kv.length=b.sz:=by have:=hkv.length;omega
  have turn:∀(es':Array MapEntry) (clk':Nat) (ch':List (List DL)),(Instr.mapUpdate t (ρ x) (ρ y) (ρ v)).run P w=.ok () {w with heap:=w.heap.setIfInBounds (μ id) (.map es' clk')}->Born es'.toList clk'->
    (∀w' μ' h',(∀u d,RepD w O μ h u d->RepD w' O μ' h' u d)->All2 (EntOk w' O μ' h' b) es'.toList ch')->WO O w μ h n ((execOp ρ o).run P w) ⟨.tup [],[],[(id,{b with ch:=ch'})],[id]⟩:=by
   intro es' clk' ch' hrun hborn' hent
   have hlt:μ id<w.heap.size:=(ZW.1 hE).1
   obtain⟨hmono,hinv⟩:=map_write (w':={w with heap:=w.heap.setIfInBounds (μ id) (.map es' clk')}) (b':={b with ch:=ch'}) (es':=es') (clk':=clk') hI hb hmp hmp hfz rfl rfl hE (by simp[hlt]) (by simp)
    (fun q hq=>by simp[Ne.symm hq]) rfl rfl rfl
   refine⟨undef,_,μ,.inr ⟨?_,rfl⟩,⟨[],rfl,.nil⟩,hinv (X9.of_map hmp (by rw[show({b with ch:=ch'}:Blk).ty=b.ty from rfl,hty];exact aggN_two agg) ⟨es',clk',by simp[hlt],⟨hv0,hborn'⟩,hent _ _ _ fun u d hr=>hr.mono hmono⟩),hmono⟩
   simp only[execOp,ho]
   rw[Sem.run_bind,hrun];rfl
  unfold updIn at hr
  cases hf:findC k m kc b.ch 0 with
  |none=>simp[hf]at hr
  |some q=>
  simp only[hf]at hr
  rcases run_findAsk (P:=P) kt te m k i hk he hi hs b hsz kc kv hkv hkl es.toList b.ch 0 q hall hf with⟨rfl,hrun⟩|⟨qi,en,c,rfl,hen,hcc,hrun,hkey⟩
  ·simp only[Za]at hr;subst hr
   have hf1:=hfk _ hrun
   refine turn (es.push {key:=ρ y,val:=ρ v,born:=clk}) (clk+1) _ ?_ ?_ ?_
   ·simp[Instr.mapUpdate,SY ht,hxm,MapKept.run_getObj_map hE,hck,hf1,MapKept.run_setObj_map _ hE,Result.andThen]
   ·rw[Array.toList_push]
    refine⟨List.pairwise_append.2 ⟨hborn.1,by simp,fun a ha c hc=> ?_⟩,fun a ha=> ?_⟩
    ·simp at hc;subst hc
     have:=hborn.2 a ha;simp;omega
    ·rcases Z3.1 ha with ha|ha
     ·have:=hborn.2 a ha;omega
     ·simp at ha;subst ha;simp
   ·intro w' μ' h' himp
    rw[Array.toList_push]
    refine All2.append (hall.imp fun a c ⟨kv,xv,g1,g2,g3,g4⟩=>⟨kv,xv,g1,g2,g3,g4.imp himp⟩) (.cons ⟨kv,(ρ v).cells.toList,ey,hval,hkvl,?_⟩ .nil)
    exact(hkv.imp himp).append (hvals.imp himp)
  ·simp only[ZY,Za]at hr;subst hr
   have hf1:=hfk _ hrun
   simp only[ZY]at hf1
   have hstay:(Instr.keyThatStays en.key (ρ y)).run P w=.ok (ρ y) w:=by
    unfold Instr.keyThatStays
    rw[hkey,ey,has,sameBits_ints];simp
   have hen':es[qi]? =some en:=by simpa using hen
   refine turn (es.modify qi fun a=>{a with key:=ρ y,val:=ρ v}) clk _ ?_ ?_ ?_
   ·simp[Instr.mapUpdate,SY ht,hxm,MapKept.run_getObj_map hE,hck,hf1,MapKept.run_setObj_map _ hE,Result.andThen,hen',hstay]
   ·refine born_same ?_ hborn
    rw[Array.toList_modify,modify_set _ _ _ _ hen,List.map_set]
    exact(TA _ _ _ (by simp[hen'])).symm
   ·intro w' μ' h' himp
    rw[Array.toList_modify,modify_set _ _ _ _ hen]
    exact All2.set (hall.imp fun a c ⟨kv,xv,g1,g2,g3,g4⟩=>⟨kv,xv,g1,g2,g3,g4.imp himp⟩) qi _ _ ⟨kv,(ρ v).cells.toList,ey,hval,hkvl,(hkv.imp himp).append (hvals.imp himp)⟩
 ·simp at hr
theorem sim_lenMap (t kt e:TypeId)(x:Operand)(ρ:Operand->Value)(o:Oper)(ts:Array TypeId)(ho:o.op=.call ⟨.builtin .len,#[x],ts⟩)(ht:ts[0]? =some t)(hu:P.underlying t=some (.map kt e))(dx:DV)(hx:Xo w O μ h (ρ x) dx)(r:Res)
  (hr:U6 h [dx]=some r) (hI:HInv w O μ h):WO O w μ h n ((execOp ρ o).run P w) r:=by
 unfold U6 at hr
 split at hr
 ·rename_i id heq
  simp only[ZI,and_true]at heq;subst heq
  cases hb:h id with
  |none=>simp[hb]at hr
  |some b=>
  simp only[hb]at hr
  obtain⟨hmp,rfl⟩:=Xk hr
  rw[Zo]at hmp
  obtain⟨hmp,hty⟩:=hmp
  have hty:Nat.beq b.ty 2=false:=by simpa using hty
  obtain⟨es,clk,hE,_,hall⟩:=(hI.blk id b hb).map hmp hty
  have hxm:ρ x=.map (some (μ id)):=by
   have hx':RepD w O μ h (ρ x) (.mp id):=hx
   generalize ρ x=v at hx'
   cases hx' with
   |mp _ _ _ _=>rfl
  have hl:=hall.length
  refine Un (v:=.int .i64 (Int.ofNat b.ch.length)) hI ?_ (Xo.int _ _)
  rw[<-hl]
  simp[execOp,ho,resolve,invoke,builtin,Builtin.len_,ht,hxm,underlying,hu,goInt,Sem.run_bind,Result.andThen,go_sem,MapKept.run_getObj_map hE]
 ·simp at hr
end
end Go.Ev
