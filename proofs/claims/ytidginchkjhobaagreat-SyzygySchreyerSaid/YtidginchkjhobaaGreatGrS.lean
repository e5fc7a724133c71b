/- Which orders are valid: both functions answer the same, for every order. -/
import Derived.Test.YtidginchkjhobaaGreatGrC
import Derived.Test.YtidginchkjhobaaGreatVec
namespace Go.Proofs.YtidginchkjhobaaGreat
open Go.Ev Go.Num
variable {o:M'}
end Go.Proofs.YtidginchkjhobaaGreat
namespace Go.Proofs.YtidginchkjhobaaGreat
open Go.Ev Go.Num
theorem VQ.mono {D c b:Nat}{a:Z'}(h:VQ D c a)(k:c<=b):VQ D b a:=fun t d=>(h t d).mono k
theorem Fr.scale {D c E:Nat}{x:Rat}(h:Fr D c x):Fr (D*E) (c*E) x:=by
 obtain⟨z,e,a⟩:=h;refine⟨z*E,?_,?_⟩
 ·rw[Rat.natCast_mul,<-Rat.mul_assoc,e,YM,YV]
 ·rw[Yq,Z9];exact Zn _ a
theorem VQ.Wh {D a b:Nat}{c d:Z'}(g:Q8 c)(i:Q8 d)(h:VQ D a c)(k:VQ D b d):VQ D (a+b) (Wh c d):=fun x f=>by
 rcases R6 _ (Ze _) g i f with h1|h1|⟨t,ht,u,hu,-,-,e⟩
 ·exact(h x h1).mono (by omega)
 ·exact(k x h1).mono (by omega)
 ·rw[e];exact(h t ht).add (k u hu)
theorem Fr.neg {D c:Nat}{x:Rat}(h:Fr D c x):Fr D c (-x):=by
 obtain⟨z,e,a⟩:=h;exact⟨-z,by rw[Rat.neg_mul,e,Rat.intCast_neg],by omega⟩
theorem Ph {a:Z'}{x:Qm}(h:x∈Wu a):∃t∈a,x.2=t.2/\x.1= -t.1:=by
 unfold Wu X1 at h;obtain⟨t,b,rfl⟩:=ZM.1 h;exact⟨t,b,rfl,neg_one_mul _⟩
theorem VQ.Wu {D c:Nat}{a:Z'}(h:VQ D c a):VQ D c (Wu a):=fun x d=>by
 obtain⟨t,b,-,e⟩:=Ph d;rw[e];exact(h t b).neg
theorem Vo {c:Rat}{m:P'}{a:Z'}{x:Qm}(h:x∈XG c m a):∃t∈a,x.2=Xg m t.2/\x.1=c*t.1:=by
 unfold XG at h;obtain⟨t,b,rfl⟩:=ZM.1 h;exact⟨t,b,rfl,rfl⟩
theorem bX {N:Nat}:∀{a:S'},(∀Q∈a,Q.length<=N)->a.flatten.length<=a.length*N
 |[],_=>by simp
 |Q::a,h=>by
  have c:=h Q (Zc ..);have d:=bX fun R b=>h R (Zb _ b)
  simp only[List.flatten_cons,Zm,Zi,ZG,Z4];omega
theorem BX {w:P'}(b:w.length=8)(d:∀x∈w,0<x){V:Nat}{Q:Z'}(f:Pl Q)(h:∀u∈Q,ez w V u.2):Q.length<=(allM w V).length:=by
 have e:=ow (o:=([]:M')) b d V;have a:=PO.dH e.dc (fun n g=>(e.xh n g).1) (U5 (o:=[]) f.SQ) fun t c=>WS.2 (TF (b.trans (h t ((WL [] Q).mem_iff.1 c)).1.symm) d (h t ((WL [] Q).mem_iff.1 c)).2)
 rw[T7]at a;exact Zx a (Np _)
theorem kh {B:Xs}(l:Std B):∀{i e:N'} {b a:S'},VS i b->VS e a->b.length=a.length->(∀f∈b,Sz f/\f.length<400000)->(∀f∈a,Sz f/\f.length<400000)->∃d,(XS B fun E _=>tR E i e d)/\VS d (List.zipWith Wh b a)
 |[],e,[],a,.nil,h,he,_,_=>by
  cases h with
  |nil=>exact⟨[],XS.of fun _ _=>.nil,.nil⟩
  |cons _ _=>simp at he
 |c::i,xs',f::b,gs',.cons hc hcs,h,he,h1,h2=>by
  cases h with
  |nil=>simp at he
  |@cons x g e a s k=>
   obtain⟨d,t,u⟩:=kh l hcs k (by simpa using he) (fun f j=>h1 f (Zb _ j)) fun f j=>h2 f (Zb _ j)
   obtain⟨n,o⟩:=h1 f (Zc ..);obtain⟨p,q⟩:=h2 g (Zc ..);obtain⟨m,v,w⟩:=ma l hc s n p o q;exact⟨.Xn m::d,(t.and v.Xk).mono fun E K ⟨r,e1⟩=>.cons e1 r,.cons ⟨m,.Xn,w⟩ u⟩
theorem me {B:Xs}(d:Std B):∀{c:N'} {a:S'},VS c a->(∀f∈a,Sz f/\f.length<400000)->∃b,(XS B fun E _=>XB (fun p x=>E.pure 67 [.one .Xq,.one p]=some (.one x)) c b)/\VS b (a.map Wu)
 |[],[],.nil,_=>⟨[],XS.of fun _ _=>.nil,.nil⟩
 |p::c,f::a,.cons hp h,h1=>by
  obtain⟨b,m,n⟩:=me d h fun f l=>h1 f (Zb _ l)
  obtain⟨i,j⟩:=h1 f (Zc ..);obtain⟨e,o,g⟩:=lW d (lp:=.Xq) (ts:=[]) ⟨[],.nil,.nil⟩ hp Sz.nil i (by simp) j;rw[X6]at g;exact⟨.Xn e::b,(m.and o.Xk).mono fun E K ⟨k,e1⟩=>.cons e1 k,.cons ⟨e,.Xn,g⟩ n⟩
theorem bI (t:Qm)(g:Z'):WY [] [t] g=XG t.1 t.2 g:=by
 unfold WY;rw[X6];unfold WY;rfl
theorem qT (n:Nat):VS (List.replicate n .Xq) (List.replicate n []):=by
 induction n with
 |zero=>exact .nil
 |succ n a=>exact .cons ⟨[],.nil,.nil⟩ a
variable {o:M'}{w:P'}
theorem vU {c:Type}{f:c->c->c}{l m:List c}{h:Nat}{x:c}(e:(List.zipWith f l m)[h]? =some x):∃a b,l[h]? =some a/\m[h]? =some b/\x=f a b:=by
 rw[List.getElem?_zipWith]at e;cases d:l[h]? with
 |none=>rw[d]at e;cases e
 |some a=>
  cases g:m[h]? with
  |none=>rw[d,g]at e;cases e
  |some b=>
   rw[d,g]at e;cases e;exact⟨a,b,rfl,rfl,rfl⟩
theorem qm {n i h:Nat}{x:Qm}{A:Z'}(e:((List.replicate n ([]:Z')).set i [x])[h]? =some A):(h=i/\A=[x])\/(h≠i/\A=[]):=by
 rw[YK]at e;by_cases a:i=h
 ·rw[if_pos a]at e;split at e
  ·cases e;exact .inl ⟨a.symm,rfl⟩
  ·cases e
 ·rw[if_neg a,Yf]at e;split at e
  ·cases e;exact .inr ⟨fun h=>a h.symm,rfl⟩
  ·cases e
theorem Dk {a b:Z'}(c:Q8 a)(d:Q8 b)(m:P'):SN (Wh a b) m=SN a m+SN b m:=by
 rw[Wo,Wo,Wo,VC _ _ _ _ (Ze _) c d]
def fB (n i j:Nat)(s t:Qm)(Qs:S'):S':=
 List.zipWith Wh (List.zipWith Wh ((List.replicate n []).set i [(s.1⁻¹,XQ (XJ s.2 t.2) s.2)]) ((List.replicate n []).set j [(-t.1⁻¹,XQ (XJ s.2 t.2) t.2)])) (Qs.map Wu)
end Go.Proofs.YtidginchkjhobaaGreat
namespace Go.Proofs.YtidginchkjhobaaGreat
open Go.Ev Go.Num
variable {o:M'}{w:P'}
theorem wG {B:Xs}(j:Std B){p h:PL}(q:TR h o)(l:Vt o)(e:o.length<1000000){f:Z'}(m:PQ p f)(k:f.length<100000){s:Qm}(g:XR o f=some s):
  ∃n a d b,Xu B 61 [.one p,.one h] (.X9 [.agg (.bool n::a::.bool d::b::mo s.2),.one (.bool true)])/\Ri [.bool n,a,.bool d,b] s.1/\XD s.2:=by
 cases f with
 |nil=>cases g
 |cons t w=>
  simp only[Zi]at k;obtain⟨c,r,i⟩:=yW j q l e m (by omega);obtain⟨n,a,d,b,rfl,u,v⟩:=i;cases g
  grind
end Go.Proofs.YtidginchkjhobaaGreat
