/- The leading monomial of a product; sums of products of small whole polynomials: plain facts. -/
import Derived.Test.YtidginchkjhobaaGreatGrD
namespace Go.Proofs.YtidginchkjhobaaGreat
open Go.Ev Go.Num
theorem uo {d e:Nat}{m n:List Nat}(i:sw d m)(j:sw e n):sw (d+e) (Xg m n):=by
 obtain⟨a,b,c,rfl,k⟩:=i;obtain⟨f,g,h,rfl,l⟩:=j;exact⟨a+f,b+g,c+h,rfl,by omega⟩
theorem rK {d e a b n:Nat}{f:List Qm}(h:Sa d a n f){z:Int}(p:z≠0)(j:z.natAbs<=b){m:List Nat}(k:sw e m):Sa (e+d) (b*a) n (XS (z:Rat) m f):=by
 have i:(z:Rat)≠0:=fun e=>p ((Rat.intCast_inj (a:=z) (b:=0)).1 (by simpa using e))
 refine⟨SM i k.l8 h.pl,fun t c=> ?_,fun t c=> ?_,by unfold XS;rw[ZP];exact h.len⟩
 ·unfold XS at c;obtain⟨u,g,rfl⟩:=ZQ.1 c;exact uo k (h.my u g)
 ·unfold XS at c;obtain⟨u,g,rfl⟩:=ZQ.1 c;obtain⟨y,l,o⟩:=h.cf u g;refine⟨z*y,by rw[Yg,<-l],?_⟩;rw[Yf];exact ZU j o
theorem tI {d e a b n:Nat}{i:List Qm}(h:Sa d a n i):∀{g f:List Qm} {c k:Nat},(∀t∈g,sw e t.2/\t.1≠0/\∃z:Int,t.1=(z:Rat)/\z.natAbs<=b)->Sa (e+d) c k f->c+g.length*(b*a)<4294967296->b*a<4294967296->
  kl i f g/\Sa (e+d) (c+g.length*(b*a)) (k+g.length*n) (Ry f g i)
 |[],f,c,k,_,hacc,_,_=>⟨trivial,by simpa[Ry]using hacc⟩
 |t::g,f,c,k,ht,hacc,hs,hba=>by
  obtain⟨o,p,z,j,q⟩:=ht t (Ze ..);have r:z≠0:=fun e=>p (by rw[j,e];rfl)
  have l:Sa (e+d) (b*a) n (XS t.1 t.2 i):=by rw[j];exact rK h r q o
  have m:(t::g).length*(b*a)=g.length*(b*a)+b*a:=by rw[Zi,ZG,ZZ]
  rw[m]at hs;obtain⟨s,v⟩:=tI h (fun u h=>ht u (Zc _ h)) (hacc.add l) (by omega) hba;refine⟨⟨P1 hacc (by omega),P1 l hba,s⟩,?_⟩;rw[m,show(t::g).length*n=g.length*n+n by rw[Zi,ZG,ZZ]];exact v.mono (Zh _) (by omega) (by omega)
theorem wj {d a n:Nat}{f:List Qm}(h:Sa d a n f):∀t∈f,sw d t.2/\t.1≠0/\∃z:Int,t.1=(z:Rat)/\z.natAbs<=a:=fun t b=>⟨h.my t b,h.pl.dc.nz t b,h.cf t b⟩
theorem tH {q f:List Qm}(a:Sa 2 9 3 q)(c:Sa 3 12 4 f):kl f [] q/\Sa 5 324 12 (Ry [] q f):=by
 obtain⟨d,g⟩:=tI (e:=2) (b:=9) c (wj a) (Sa.nil 5 0 0) (by have:=a.len;omega) (by omega);have h:=a.len;exact⟨d,g.mono (Zh _) (by omega) (by omega)⟩
theorem yI {q f:List Qm}(b:Sa 2 9 3 q)(a:Sa 3 12 4 f):∀t∈q,∀u∈f,XE (Xg t.2 u.2):=fun t c u e=>Aa (d:=5) (by omega) (uo (b.my t c) (a.my u e))
theorem sI:∀{qs fs:List (List Qm)} {a:List Qm} {c n:Nat},qs.length=fs.length->(∀q∈qs,Sa 2 9 3 q)->(∀f∈fs,Sa 3 12 4 f)->Sa 5 c n a->c+qs.length*324<100000->n+qs.length*12<100000->∃r,ma a qs fs r/\Sa 5 (c+qs.length*324) (n+qs.length*12) r
 |[],[],a,c,n,_,_,_,ha,_,_=>⟨a,.nil a,by simpa using ha⟩
 |[],_::_,_,_,_,h,_,_,_,_,_=>by simp at h
 |_::_,[],_,_,_,h,_,_,_,_,_=>by simp at h
 |q::qs,f::fs,a,c,n,h,hq,hf,ha,h1,h2=>by
  have b:=hq q (Ze ..);have d:=hf f (Ze ..);obtain⟨o,g⟩:=tH b d;simp only[Zi]at h1 h2 h;obtain⟨r,j,k⟩:=sI (qs:=qs) (fs:=fs) (by omega) (fun x e=>hq x (Zc _ e)) (fun x e=>hf x (Zc _ e)) (ha.add g) (by omega) (by omega);have l:=b.len;have m:=d.len;have p:=g.len;have s:=ha.len;refine⟨r,.cons (P1 b (by omega)) (P1 d (by omega)) (fun t i=>⟨b.pl.dc.nz t i,yI b d t i⟩) o (by omega) (by omega) ?_ (P1 ha (by omega)) (P1 g (by omega)) (by omega) (by omega) j,k.mono (Zh _) (by simp only[Zi];omega) (by simp only[Zi];omega)⟩;have :q.length*f.length<=3*4:=ZU l m;omega
end Go.Proofs.YtidginchkjhobaaGreat
