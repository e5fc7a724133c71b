/- Division: subtract, the loop over the exponents (written by gen_qsub.py). -/
import Derived.Test.YtidginchkjhobaaGreatQDec
set_option maxHeartbeats 16000000
set_option maxRecDepth 100000
namespace Go.Proofs.YtidginchkjhobaaGreat
open Go.Ev Go.Num
theorem H7 {E:Xa}{K k:Nat}(Q:E.mode=md){D d e o q c3 c4 x y z u:PL}{p f g i j l:DL}{a:Nat}(r:65535<=a){m n:Xx}{G:V'}{c s t v w A B C b m2 F H I J L M:Nat}(h:c+b<=65535):
  Xb E K 0 [1,4,6,10,11,13,24,25,26,30] x144_1 (k+1) ⟨[(1,.one p),(4,.one (.ptr 0 0 0 0)),(6,.one (.ptr 1 0 0 0)),(10,.one f),(11,.one g),(13,.one (.ptr (G.length+1+1+1+1) 0 0 0)),(24,.one i),(25,.one j),(26,.one l),(30,LB 0)],⟨false,0,4,[[.p D,.p d,.p (LA a),.p e]],false,135⟩::⟨false,0,12,[[.p o,.p q,.p c3,.p c4,.p (LA b),.p (LA m2),.p (LA F),.p (LA H),.p (LA I),.p (LA J),.p (LA L),.p (LA M)]],false,75⟩::m::n::(G++[⟨false,0,12,[[.p x,.p y,.p z,.p u,.p (LA c),.p (LA s),.p (LA t),.p (LA v),.p (LA w),.p (LA A),.p (LA B),.p (LA C)]],false,75⟩])⟩=Xb E K 0 [1,4,6,10,11,13,24,25,26,30] x144_1 k ⟨[(1,.one p),(4,.one (.ptr 0 0 0 0)),(6,.one (.ptr 1 0 0 0)),(10,.one f),(11,.one g),(13,.one (.ptr (G.length+1+1+1+1) 0 0 0)),(24,.one i),(25,.one j),(26,.one l),(30,LB 1)],⟨false,0,4,[[.p D,.p d,.p (LA a),.p e]],false,135⟩::⟨false,0,12,[[.p o,.p q,.p c3,.p c4,.p (LA b),.p (LA m2),.p (LA F),.p (LA H),.p (LA I),.p (LA J),.p (LA L),.p (LA M)]],false,75⟩::m::n::(G++[⟨false,0,12,[[.p x,.p y,.p z,.p u,.p (LA (c+b)),.p (LA s),.p (LA t),.p (LA v),.p (LA w),.p (LA A),.p (LA B),.p (LA C)]],false,75⟩])⟩:=by
 have N:Xe .i64 (.ofNat (c+b))=.ofNat (c+b):=wrap_i64 (by omega);have O:¬a<c+b:=by omega
 have P:Xe .i64 (.ofNat 1)=.ofNat 1:=rfl;rw[Xb];simp(decide:=true)only[Xo,Xr,VR,reduceIte,Nat.reduceEqDiff,Nat.reduceLeDiff,Nat.reduceAdd,x144_1,N,O,P]
theorem H6 {E:Xa}{K k:Nat}(Q:E.mode=md){D c d o q c3 c4 x y z u:PL}{p e f g i j:DL}{a:Nat}(r:65535<=a){m n:Xx}{G:V'}{s b t v w A B C l m2 F H I J L M:Nat}(h:b+m2<=65535):
  Xb E K 0 [1,4,6,10,11,13,24,25,26,30] x144_1 (k+1) ⟨[(1,.one p),(4,.one (.ptr 0 0 0 0)),(6,.one (.ptr 1 0 0 0)),(10,.one e),(11,.one f),(13,.one (.ptr (G.length+1+1+1+1) 0 0 0)),(24,.one g),(25,.one i),(26,.one j),(30,LB 1)],⟨false,0,4,[[.p D,.p c,.p (LA a),.p d]],false,135⟩::⟨false,0,12,[[.p o,.p q,.p c3,.p c4,.p (LA l),.p (LA m2),.p (LA F),.p (LA H),.p (LA I),.p (LA J),.p (LA L),.p (LA M)]],false,75⟩::m::n::(G++[⟨false,0,12,[[.p x,.p y,.p z,.p u,.p (LA (s+l)),.p (LA b),.p (LA t),.p (LA v),.p (LA w),.p (LA A),.p (LA B),.p (LA C)]],false,75⟩])⟩=Xb E K 0 [1,4,6,10,11,13,24,25,26,30] x144_1 k ⟨[(1,.one p),(4,.one (.ptr 0 0 0 0)),(6,.one (.ptr 1 0 0 0)),(10,.one e),(11,.one f),(13,.one (.ptr (G.length+1+1+1+1) 0 0 0)),(24,.one g),(25,.one i),(26,.one j),(30,LB 2)],⟨false,0,4,[[.p D,.p c,.p (LA a),.p d]],false,135⟩::⟨false,0,12,[[.p o,.p q,.p c3,.p c4,.p (LA l),.p (LA m2),.p (LA F),.p (LA H),.p (LA I),.p (LA J),.p (LA L),.p (LA M)]],false,75⟩::m::n::(G++[⟨false,0,12,[[.p x,.p y,.p z,.p u,.p (LA (s+l)),.p (LA (b+m2)),.p (LA t),.p (LA v),.p (LA w),.p (LA A),.p (LA B),.p (LA C)]],false,75⟩])⟩:=by
 have N:Xe .i64 (.ofNat (b+m2))=.ofNat (b+m2):=wrap_i64 (by omega);have O:¬a<b+m2:=by omega
 have P:Xe .i64 (.ofNat 2)=.ofNat 2:=rfl;rw[Xb];simp(decide:=true)only[Xo,Xr,VR,reduceIte,Nat.reduceEqDiff,Nat.reduceLeDiff,Nat.reduceAdd,x144_1,N,O,P]
theorem H5 {E:Xa}{K k:Nat}(Q:E.mode=md){F d e q r c3 c4 x y z u:PL}{p f g i j l:DL}{a:Nat}(s:65535<=a){n o:Xx}{G:V'}{t v c w A B C D m m2 b H I J L M:Nat}(h:c+b<=65535):
  Xb E K 0 [1,4,6,10,11,13,24,25,26,30] x144_1 (k+1) ⟨[(1,.one p),(4,.one (.ptr 0 0 0 0)),(6,.one (.ptr 1 0 0 0)),(10,.one f),(11,.one g),(13,.one (.ptr (G.length+1+1+1+1) 0 0 0)),(24,.one i),(25,.one j),(26,.one l),(30,LB 2)],⟨false,0,4,[[.p F,.p d,.p (LA a),.p e]],false,135⟩::⟨false,0,12,[[.p q,.p r,.p c3,.p c4,.p (LA m),.p (LA m2),.p (LA b),.p (LA H),.p (LA I),.p (LA J),.p (LA L),.p (LA M)]],false,75⟩::n::o::(G++[⟨false,0,12,[[.p x,.p y,.p z,.p u,.p (LA (t+m)),.p (LA (v+m2)),.p (LA c),.p (LA w),.p (LA A),.p (LA B),.p (LA C),.p (LA D)]],false,75⟩])⟩=Xb E K 0 [1,4,6,10,11,13,24,25,26,30] x144_1 k ⟨[(1,.one p),(4,.one (.ptr 0 0 0 0)),(6,.one (.ptr 1 0 0 0)),(10,.one f),(11,.one g),(13,.one (.ptr (G.length+1+1+1+1) 0 0 0)),(24,.one i),(25,.one j),(26,.one l),(30,LB 3)],⟨false,0,4,[[.p F,.p d,.p (LA a),.p e]],false,135⟩::⟨false,0,12,[[.p q,.p r,.p c3,.p c4,.p (LA m),.p (LA m2),.p (LA b),.p (LA H),.p (LA I),.p (LA J),.p (LA L),.p (LA M)]],false,75⟩::n::o::(G++[⟨false,0,12,[[.p x,.p y,.p z,.p u,.p (LA (t+m)),.p (LA (v+m2)),.p (LA (c+b)),.p (LA w),.p (LA A),.p (LA B),.p (LA C),.p (LA D)]],false,75⟩])⟩:=by
 have N:Xe .i64 (.ofNat (c+b))=.ofNat (c+b):=wrap_i64 (by omega);have O:¬a<c+b:=by omega
 have P:Xe .i64 (.ofNat 3)=.ofNat 3:=rfl;rw[Xb];simp(decide:=true)only[Xo,Xr,VR,reduceIte,Nat.reduceEqDiff,Nat.reduceLeDiff,Nat.reduceAdd,x144_1,N,O,P]
theorem H4 {E:Xa}{K k:Nat}(Q:E.mode=md){H d e r s c3 c4 x y z u:PL}{p f g i j l:DL}{a:Nat}(t:65535<=a){o q:Xx}{G:V'}{v w A c B C D F m m2 n b I J L M:Nat}(h:c+b<=65535):
  Xb E K 0 [1,4,6,10,11,13,24,25,26,30] x144_1 (k+1) ⟨[(1,.one p),(4,.one (.ptr 0 0 0 0)),(6,.one (.ptr 1 0 0 0)),(10,.one f),(11,.one g),(13,.one (.ptr (G.length+1+1+1+1) 0 0 0)),(24,.one i),(25,.one j),(26,.one l),(30,LB 3)],⟨false,0,4,[[.p H,.p d,.p (LA a),.p e]],false,135⟩::⟨false,0,12,[[.p r,.p s,.p c3,.p c4,.p (LA m),.p (LA m2),.p (LA n),.p (LA b),.p (LA I),.p (LA J),.p (LA L),.p (LA M)]],false,75⟩::o::q::(G++[⟨false,0,12,[[.p x,.p y,.p z,.p u,.p (LA (v+m)),.p (LA (w+m2)),.p (LA (A+n)),.p (LA c),.p (LA B),.p (LA C),.p (LA D),.p (LA F)]],false,75⟩])⟩=Xb E K 0 [1,4,6,10,11,13,24,25,26,30] x144_1 k ⟨[(1,.one p),(4,.one (.ptr 0 0 0 0)),(6,.one (.ptr 1 0 0 0)),(10,.one f),(11,.one g),(13,.one (.ptr (G.length+1+1+1+1) 0 0 0)),(24,.one i),(25,.one j),(26,.one l),(30,LB 4)],⟨false,0,4,[[.p H,.p d,.p (LA a),.p e]],false,135⟩::⟨false,0,12,[[.p r,.p s,.p c3,.p c4,.p (LA m),.p (LA m2),.p (LA n),.p (LA b),.p (LA I),.p (LA J),.p (LA L),.p (LA M)]],false,75⟩::o::q::(G++[⟨false,0,12,[[.p x,.p y,.p z,.p u,.p (LA (v+m)),.p (LA (w+m2)),.p (LA (A+n)),.p (LA (c+b)),.p (LA B),.p (LA C),.p (LA D),.p (LA F)]],false,75⟩])⟩:=by
 have N:Xe .i64 (.ofNat (c+b))=.ofNat (c+b):=wrap_i64 (by omega);have O:¬a<c+b:=by omega
 have P:Xe .i64 (.ofNat 4)=.ofNat 4:=rfl;rw[Xb];simp(decide:=true)only[Xo,Xr,VR,reduceIte,Nat.reduceEqDiff,Nat.reduceLeDiff,Nat.reduceAdd,x144_1,N,O,P]
theorem H3 {E:Xa}{K k:Nat}(Q:E.mode=md){I d e s t c3 c4 x y z u:PL}{p f g i j l:DL}{a:Nat}(v:65535<=a){q r:Xx}{G:V'}{w A B C c D F H m m2 n o b J L M:Nat}(h:c+b<=65535):
  Xb E K 0 [1,4,6,10,11,13,24,25,26,30] x144_1 (k+1) ⟨[(1,.one p),(4,.one (.ptr 0 0 0 0)),(6,.one (.ptr 1 0 0 0)),(10,.one f),(11,.one g),(13,.one (.ptr (G.length+1+1+1+1) 0 0 0)),(24,.one i),(25,.one j),(26,.one l),(30,LB 4)],⟨false,0,4,[[.p I,.p d,.p (LA a),.p e]],false,135⟩::⟨false,0,12,[[.p s,.p t,.p c3,.p c4,.p (LA m),.p (LA m2),.p (LA n),.p (LA o),.p (LA b),.p (LA J),.p (LA L),.p (LA M)]],false,75⟩::q::r::(G++[⟨false,0,12,[[.p x,.p y,.p z,.p u,.p (LA (w+m)),.p (LA (A+m2)),.p (LA (B+n)),.p (LA (C+o)),.p (LA c),.p (LA D),.p (LA F),.p (LA H)]],false,75⟩])⟩=Xb E K 0 [1,4,6,10,11,13,24,25,26,30] x144_1 k ⟨[(1,.one p),(4,.one (.ptr 0 0 0 0)),(6,.one (.ptr 1 0 0 0)),(10,.one f),(11,.one g),(13,.one (.ptr (G.length+1+1+1+1) 0 0 0)),(24,.one i),(25,.one j),(26,.one l),(30,LB 5)],⟨false,0,4,[[.p I,.p d,.p (LA a),.p e]],false,135⟩::⟨false,0,12,[[.p s,.p t,.p c3,.p c4,.p (LA m),.p (LA m2),.p (LA n),.p (LA o),.p (LA b),.p (LA J),.p (LA L),.p (LA M)]],false,75⟩::q::r::(G++[⟨false,0,12,[[.p x,.p y,.p z,.p u,.p (LA (w+m)),.p (LA (A+m2)),.p (LA (B+n)),.p (LA (C+o)),.p (LA (c+b)),.p (LA D),.p (LA F),.p (LA H)]],false,75⟩])⟩:=by
 have N:Xe .i64 (.ofNat (c+b))=.ofNat (c+b):=wrap_i64 (by omega);have O:¬a<c+b:=by omega
 have P:Xe .i64 (.ofNat 5)=.ofNat 5:=rfl;rw[Xb];simp(decide:=true)only[Xo,Xr,VR,reduceIte,Nat.reduceEqDiff,Nat.reduceLeDiff,Nat.reduceAdd,x144_1,N,O,P]
theorem H0 {E:Xa}{K k:Nat}(Q:E.mode=md){J d e t v c3 c4 x y z u:PL}{p f g i j l:DL}{a:Nat}(w:65535<=a){r s:Xx}{G:V'}{A B C D F c H I m m2 n o q b L M:Nat}(h:c+b<=65535):
  Xb E K 0 [1,4,6,10,11,13,24,25,26,30] x144_1 (k+1) ⟨[(1,.one p),(4,.one (.ptr 0 0 0 0)),(6,.one (.ptr 1 0 0 0)),(10,.one f),(11,.one g),(13,.one (.ptr (G.length+1+1+1+1) 0 0 0)),(24,.one i),(25,.one j),(26,.one l),(30,LB 5)],⟨false,0,4,[[.p J,.p d,.p (LA a),.p e]],false,135⟩::⟨false,0,12,[[.p t,.p v,.p c3,.p c4,.p (LA m),.p (LA m2),.p (LA n),.p (LA o),.p (LA q),.p (LA b),.p (LA L),.p (LA M)]],false,75⟩::r::s::(G++[⟨false,0,12,[[.p x,.p y,.p z,.p u,.p (LA (A+m)),.p (LA (B+m2)),.p (LA (C+n)),.p (LA (D+o)),.p (LA (F+q)),.p (LA c),.p (LA H),.p (LA I)]],false,75⟩])⟩=Xb E K 0 [1,4,6,10,11,13,24,25,26,30] x144_1 k ⟨[(1,.one p),(4,.one (.ptr 0 0 0 0)),(6,.one (.ptr 1 0 0 0)),(10,.one f),(11,.one g),(13,.one (.ptr (G.length+1+1+1+1) 0 0 0)),(24,.one i),(25,.one j),(26,.one l),(30,LB 6)],⟨false,0,4,[[.p J,.p d,.p (LA a),.p e]],false,135⟩::⟨false,0,12,[[.p t,.p v,.p c3,.p c4,.p (LA m),.p (LA m2),.p (LA n),.p (LA o),.p (LA q),.p (LA b),.p (LA L),.p (LA M)]],false,75⟩::r::s::(G++[⟨false,0,12,[[.p x,.p y,.p z,.p u,.p (LA (A+m)),.p (LA (B+m2)),.p (LA (C+n)),.p (LA (D+o)),.p (LA (F+q)),.p (LA (c+b)),.p (LA H),.p (LA I)]],false,75⟩])⟩:=by
 have N:Xe .i64 (.ofNat (c+b))=.ofNat (c+b):=wrap_i64 (by omega);have O:¬a<c+b:=by omega
 have P:Xe .i64 (.ofNat 6)=.ofNat 6:=rfl;rw[Xb];simp(decide:=true)only[Xo,Xr,VR,reduceIte,Nat.reduceEqDiff,Nat.reduceLeDiff,Nat.reduceAdd,x144_1,N,O,P]
theorem HZ {E:Xa}{K k:Nat}(Q:E.mode=md){L d e v w c3 c4 x y z u:PL}{p f g i j l:DL}{a:Nat}(A:65535<=a){s t:Xx}{G:V'}{B C D F H I c J m m2 n o q r b M:Nat}(h:c+b<=65535):
  Xb E K 0 [1,4,6,10,11,13,24,25,26,30] x144_1 (k+1) ⟨[(1,.one p),(4,.one (.ptr 0 0 0 0)),(6,.one (.ptr 1 0 0 0)),(10,.one f),(11,.one g),(13,.one (.ptr (G.length+1+1+1+1) 0 0 0)),(24,.one i),(25,.one j),(26,.one l),(30,LB 6)],⟨false,0,4,[[.p L,.p d,.p (LA a),.p e]],false,135⟩::⟨false,0,12,[[.p v,.p w,.p c3,.p c4,.p (LA m),.p (LA m2),.p (LA n),.p (LA o),.p (LA q),.p (LA r),.p (LA b),.p (LA M)]],false,75⟩::s::t::(G++[⟨false,0,12,[[.p x,.p y,.p z,.p u,.p (LA (B+m)),.p (LA (C+m2)),.p (LA (D+n)),.p (LA (F+o)),.p (LA (H+q)),.p (LA (I+r)),.p (LA c),.p (LA J)]],false,75⟩])⟩=Xb E K 0 [1,4,6,10,11,13,24,25,26,30] x144_1 k ⟨[(1,.one p),(4,.one (.ptr 0 0 0 0)),(6,.one (.ptr 1 0 0 0)),(10,.one f),(11,.one g),(13,.one (.ptr (G.length+1+1+1+1) 0 0 0)),(24,.one i),(25,.one j),(26,.one l),(30,LB 7)],⟨false,0,4,[[.p L,.p d,.p (LA a),.p e]],false,135⟩::⟨false,0,12,[[.p v,.p w,.p c3,.p c4,.p (LA m),.p (LA m2),.p (LA n),.p (LA o),.p (LA q),.p (LA r),.p (LA b),.p (LA M)]],false,75⟩::s::t::(G++[⟨false,0,12,[[.p x,.p y,.p z,.p u,.p (LA (B+m)),.p (LA (C+m2)),.p (LA (D+n)),.p (LA (F+o)),.p (LA (H+q)),.p (LA (I+r)),.p (LA (c+b)),.p (LA J)]],false,75⟩])⟩:=by
 have N:Xe .i64 (.ofNat (c+b))=.ofNat (c+b):=wrap_i64 (by omega);have O:¬a<c+b:=by omega
 have P:Xe .i64 (.ofNat 7)=.ofNat 7:=rfl;rw[Xb];simp(decide:=true)only[Xo,Xr,VR,reduceIte,Nat.reduceEqDiff,Nat.reduceLeDiff,Nat.reduceAdd,x144_1,N,O,P]
theorem HY {E:Xa}{K k:Nat}(Q:E.mode=md){M d e w A c3 c4 x y z u:PL}{p f g i j l:DL}{a:Nat}(B:65535<=a){t v:Xx}{G:V'}{C D F H I J L c m m2 n o q r s b:Nat}(h:c+b<=65535):
  Xb E K 0 [1,4,6,10,11,13,24,25,26,30] x144_1 (k+1) ⟨[(1,.one p),(4,.one (.ptr 0 0 0 0)),(6,.one (.ptr 1 0 0 0)),(10,.one f),(11,.one g),(13,.one (.ptr (G.length+1+1+1+1) 0 0 0)),(24,.one i),(25,.one j),(26,.one l),(30,LB 7)],⟨false,0,4,[[.p M,.p d,.p (LA a),.p e]],false,135⟩::⟨false,0,12,[[.p w,.p A,.p c3,.p c4,.p (LA m),.p (LA m2),.p (LA n),.p (LA o),.p (LA q),.p (LA r),.p (LA s),.p (LA b)]],false,75⟩::t::v::(G++[⟨false,0,12,[[.p x,.p y,.p z,.p u,.p (LA (C+m)),.p (LA (D+m2)),.p (LA (F+n)),.p (LA (H+o)),.p (LA (I+q)),.p (LA (J+r)),.p (LA (L+s)),.p (LA c)]],false,75⟩])⟩=Xb E K 0 [1,4,6,10,11,13,24,25,26,30] x144_1 k ⟨[(1,.one p),(4,.one (.ptr 0 0 0 0)),(6,.one (.ptr 1 0 0 0)),(10,.one f),(11,.one g),(13,.one (.ptr (G.length+1+1+1+1) 0 0 0)),(24,.one i),(25,.one j),(26,.one l),(30,LB 8)],⟨false,0,4,[[.p M,.p d,.p (LA a),.p e]],false,135⟩::⟨false,0,12,[[.p w,.p A,.p c3,.p c4,.p (LA m),.p (LA m2),.p (LA n),.p (LA o),.p (LA q),.p (LA r),.p (LA s),.p (LA b)]],false,75⟩::t::v::(G++[⟨false,0,12,[[.p x,.p y,.p z,.p u,.p (LA (C+m)),.p (LA (D+m2)),.p (LA (F+n)),.p (LA (H+o)),.p (LA (I+q)),.p (LA (J+r)),.p (LA (L+s)),.p (LA (c+b))]],false,75⟩])⟩:=by
 have N:Xe .i64 (.ofNat (c+b))=.ofNat (c+b):=wrap_i64 (by omega);have O:¬a<c+b:=by omega
 have P:Xe .i64 (.ofNat 8)=.ofNat 8:=rfl;rw[Xb];simp(decide:=true)only[Xo,Xr,VR,reduceIte,Nat.reduceEqDiff,Nat.reduceLeDiff,Nat.reduceAdd,x144_1,N,O,P]
theorem CV {E:Xa}{K k:Nat}(b:E.mode=md){N e f L M c3 c4 x y z u:PL}{p g h i j l:DL}{c:Nat}(a:65535<=c){I J:Xx}{G:V'}{v w A B C D F H m m2 n o q r s t:Nat}(h0:v+m<=65535)(O:w+m2<=65535)(P:A+n<=65535)(Q:B+o<=65535)(R:C+q<=65535)(S:D+r<=65535)(T:F+s<=65535)(U:H+t<=65535):∃d,Xb E K 0 [1,4,6,10,11,13,24,25,26,30] x144_1 (k+9) ⟨[(1,.one p),(4,.one (.ptr 0 0 0 0)),(6,.one (.ptr 1 0 0 0)),(10,.one g),(11,.one h),(13,.one (.ptr (G.length+1+1+1+1) 0 0 0)),(24,.one i),(25,.one j),(26,.one l),(30,LB 0)],⟨false,0,4,[[.p N,.p e,.p (LA c),.p f]],false,135⟩::⟨false,0,12,[[.p L,.p M,.p c3,.p c4,.p (LA m),.p (LA m2),.p (LA n),.p (LA o),.p (LA q),.p (LA r),.p (LA s),.p (LA t)]],false,75⟩::I::J::(G++[⟨false,0,12,[[.p x,.p y,.p z,.p u,.p (LA v),.p (LA w),.p (LA A),.p (LA B),.p (LA C),.p (LA D),.p (LA F),.p (LA H)]],false,75⟩])⟩=some (.exit 2,⟨d,⟨false,0,4,[[.p N,.p e,.p (LA c),.p f]],false,135⟩::⟨false,0,12,[[.p L,.p M,.p c3,.p c4,.p (LA m),.p (LA m2),.p (LA n),.p (LA o),.p (LA q),.p (LA r),.p (LA s),.p (LA t)]],false,75⟩::I::J::(G++[⟨false,0,12,[[.p x,.p y,.p z,.p u,.p (LA (v+m)),.p (LA (w+m2)),.p (LA (A+n)),.p (LA (B+o)),.p (LA (C+q)),.p (LA (D+r)),.p (LA (F+s)),.p (LA (H+t))]],false,75⟩])⟩)/\Xh d 1=some (.one p)/\Xh d 4=some (.one (.ptr 0 0 0 0))/\Xh d 6=some (.one (.ptr 1 0 0 0))/\Xh d 10=some (.one g)/\Xh d 11=some (.one h)/\Xh d 13=some (.one (.ptr (G.length+1+1+1+1) 0 0 0))/\Xh d 24=some (.one i)/\Xh d 25=some (.one j)/\Xh d 26=some (.one l):=by
 rw[H7 b a h0];rw[H6 b a O];rw[H5 b a P];rw[H4 b a Q];rw[H3 b a R];rw[H0 b a S];rw[HZ b a T];rw[HY b a U];apply VO
 ·rw[Xb];simp only[Xo,Xr,reduceIte,Nat.reduceEqDiff,Nat.reduceLT,x144_1];rfl
 ·refine⟨?_,?_,?_,?_,?_,?_,?_,?_,?_⟩<;>simp only[Xo,reduceIte,Nat.reduceEqDiff]
abbrev RB (lo by_:PL)(l:Nat)(fst:PL):Xx:=⟨false,0,4,[[.p lo,.p by_,.p (LA l),.p fst]],false,135⟩
abbrev UE (x y z u:PL)(m:P'):Xx:=⟨false,0,12,[.p x::.p y::.p z::.p u::Xw m],false,75⟩
theorem WK {a:Type}(G l:List a)(b:a):(G++b::l)[G.length]? =some b:=by
 rw[ZJ (Ze _),YH];rfl
theorem W8 {a:Type}(G l:List a)(b c:a):(G++b::l).set G.length c=G++c::l:=by
 rw[List.set_append_right _ _ (Ze _),YH];rfl
inductive TC (E:Xa)(lo:PL)(mm:P'):I'->I'->I'->Prop
 |AW:TC E lo mm [] [] []
 |stop {x y z u:PL} {m:P'} {ps:I'} {r:Int} (hm:m.length=8) (h1:E.pure 114 [.one lo,.agg (mo m),.agg (mo mm)]=some (.one (.int .i64 r))) (h0:SR (.ofNat 0) r=false):TC E lo mm ((x::y::z::u::mo m)::ps) [] ((x::y::z::u::mo m)::ps)
 |go {x y z u:PL} {m:P'} {ps os rs:I'} (hm:m.length=8) (h1:E.pure 114 [.one lo,.agg (mo m),.agg (mo mm)]=some (.one (LA 1))) (h:TC E lo mm ps os rs):TC E lo mm ((x::y::z::u::mo m)::ps) ((x::y::z::u::mo m)::os) rs
theorem qb {E:Xa}{K k v n:Nat}(g:E.mode=md){q by_ fst x y z u x2 y2 z2 u2:PL}{m mm:P'}{s24 s25 s26:DL}{l:Nat}{b1 b2:Xx}{a o:I'}(r:m.length=8)(j:mm.length=8)(f:∀d∈a,d.length=12)(P:o.length<1000000)(D:a.length<1000000)
  (A:E.pure 114 [.one q,.agg (mo m),.agg (mo mm)]=some (.one (LA 1))) (C:n=o.length) (G G2:V'):
  ∃e,Xb E K 0 [1,4,6,10,11,13,24,25,26] x144_2 (k+1) ⟨[(1,.one (.p (.Xn ((x::y::z::u::mo m)::a)))),(4,.one (.ptr 0 0 0 0)),(6,.one (.ptr 1 0 0 0)),(10,.one (.ptr 2 0 0 0)),(11,.one (.own 3 v 0 n)),(13,.one (.ptr (G.length+1+1+1+1) 0 0 0)),(24,.one s24),(25,.one s25),(26,.one s26)],RB q by_ l fst::b1::b2::SJ v o::(G++UE x2 y2 z2 u2 mm::G2)⟩=
   Xb E K 0 [1,4,6,10,11,13,24,25,26] x144_2 k ⟨[(1,.one (.p (.Xn a))),(4,.one (.ptr 0 0 0 0)),(6,.one (.ptr 1 0 0 0)),(10,.one (.ptr 2 0 0 0)),(11,.one (.own 3 (v+1) 0 (n+1))),(13,.one (.ptr (G.length+1+1+1+1) 0 0 0)),(24,.one s24),(25,.one s25),(26,.one s26)],RB q by_ l fst::b1::b2::SJ (v+1) (o++[x::y::z::u::mo m])::(G++UE x2 y2 z2 u2 mm::e)⟩:=by
 subst C;have M:(Xw m).take 8=Xw m:=Zd (by rw[Xc];omega);have O:(Xw m).drop 8=[]:=Zo (by rw[Xc];omega);have L:(Xw mm).take 8=Xw mm:=Zd (by rw[Xc];omega);have N:(Xw mm).drop 8=[]:=Zo (by rw[Xc];omega);have s:Sl (.Xn ((x::y::z::u::mo m)::a)) ((x::y::z::u::mo m)::a):=.Xn;have b:=s.len;have F:=fun(B:HF) (H:IntKind)=>s.idx (h:=B) (k:=H) (i:=0) (sz:=12) rfl (by simp[XF,r])
 have J:=Uf (c:=x::y::z::u::mo m) (es:=a) f;have I:0<a.length+1:=by omega
 have t:(o.length+1)*128<=lim:=by unfold lim;omega
 have w:o.length+1<=9223372036854775807:=by omega
 have w1:=X0 m;have Q:=X0 mm;apply Exists.intro;rw[Xb];simp(decide:=true)only[Xo,Xr,VR,Vx,reduceIte,Nat.reduceEqDiff,Nat.reduceLeDiff,Nat.reduceAdd,x144_2,b,I,F,J,Wj,Xc,XF,r,j,M,L,Wb,Wf,g,X4,A,t,w,UC,WK,Zq,Zm,Wm,VL];rfl
def pz (T:List (Nat×DV))(lp:PL)(v n J:Nat)(s24 s25 s26:DL):Prop:=Xh T 1=some (.one (.p lp))/\Xh T 4=some (.one (.ptr 0 0 0 0))/\Xh T 6=some (.one (.ptr 1 0 0 0))/\Xh T 10=some (.one (.ptr 2 0 0 0))/\Xh T 11=some (.one (.own 3 v 0 n))/\Xh T 13=some (.one (.ptr J 0 0 0))/\Xh T 24=some (.one s24)/\Xh T 25=some (.one s25)/\Xh T 26=some (.one s26)
theorem aR {E:Xa}{K:Nat}(s:E.mode=md){t by_ fst x2 y2 z2 u2:PL}{mm:P'}{s24 s25 s26:DL}{l:Nat}{b1 b2:Xx}(C:mm.length=8)(G:V'){A H N:I'}(h:TC E t mm A H N):(∀d∈A,d.length=12)->∀(g:PL) (k v:Nat) (o:I') (G2:V'),Sl g A->o.length+A.length<1000000->A.length<k->
  ∃a j I c,Xb E K 0 [1,4,6,10,11,13,24,25,26] x144_2 k ⟨[(1,.one (.p g)),(4,.one (.ptr 0 0 0 0)),(6,.one (.ptr 1 0 0 0)),(10,.one (.ptr 2 0 0 0)),(11,.one (.own 3 v 0 o.length)),(13,.one (.ptr (G.length+1+1+1+1) 0 0 0)),(24,.one s24),(25,.one s25),(26,.one s26)],RB t by_ l fst::b1::b2::SJ v o::(G++UE x2 y2 z2 u2 mm::G2)⟩=
   some (.exit 4,⟨a,RB t by_ l fst::b1::b2::SJ I (o++H)::(G++UE x2 y2 z2 u2 mm::j)⟩)/\pz a c I (o++H).length (G.length+1+1+1+1) s24 s25 s26/\Sl c N:=by
 induction h with
 |AW=>
  intro q g k v o G2 e M L;obtain⟨k,rfl⟩:∃D,k=D+1:=⟨k-1,by omega⟩;have b:=e.len;have :∃a,Xb E K 0 [1,4,6,10,11,13,24,25,26] x144_2 (k+1) ⟨[(1,.one (.p g)),(4,.one (.ptr 0 0 0 0)),(6,.one (.ptr 1 0 0 0)),(10,.one (.ptr 2 0 0 0)),(11,.one (.own 3 v 0 o.length)),(13,.one (.ptr (G.length+1+1+1+1) 0 0 0)),(24,.one s24),(25,.one s25),(26,.one s26)],RB t by_ l fst::b1::b2::SJ v o::(G++UE x2 y2 z2 u2 mm::G2)⟩=
    some (.exit 4,⟨a,RB t by_ l fst::b1::b2::SJ v o::(G++UE x2 y2 z2 u2 mm::G2)⟩)/\pz a g v o.length (G.length+1+1+1+1) s24 s25 s26:=by
   apply VO
   ·rw[Xb];simp(decide:=true)only[Xo,Xr,VR,reduceIte,Nat.reduceEqDiff,x144_2,b,s,X4];rfl
   ·refine⟨?_,?_,?_,?_,?_,?_,?_,?_,?_⟩<;>simp only[Xo,reduceIte,Nat.reduceEqDiff]
  obtain⟨a,B,n⟩:=this;exact⟨a,G2,v,g,by rw[ZE];exact B,by rw[ZE];exact n,e⟩
 |@stop x y z u m w r F J h0=>
  intro q g k v o G2 e M L;obtain⟨k,rfl⟩:∃D,k=D+1:=⟨k-1,by omega⟩;obtain rfl:=Sl.VP e;have b:=e.len;have Y:(Xw m).take 8=Xw m:=Zd (by rw[Xc];omega);have dm:(Xw m).drop 8=[]:=Zo (by rw[Xc];omega);have X:(Xw mm).take 8=Xw mm:=Zd (by rw[Xc];omega);have Z:(Xw mm).drop 8=[]:=Zo (by rw[Xc];omega);have U:=fun(S:HF) (V:IntKind)=>e.idx (h:=S) (k:=V) (i:=0) (sz:=12) rfl (by simp[XF,F])
  have W:0<w.length+1:=by omega
  have :∃a,Xb E K 0 [1,4,6,10,11,13,24,25,26] x144_2 (k+1) ⟨[(1,.one (.p (.Xn ((x::y::z::u::mo m)::w)))),(4,.one (.ptr 0 0 0 0)),(6,.one (.ptr 1 0 0 0)),(10,.one (.ptr 2 0 0 0)),(11,.one (.own 3 v 0 o.length)),(13,.one (.ptr (G.length+1+1+1+1) 0 0 0)),(24,.one s24),(25,.one s25),(26,.one s26)],RB t by_ l fst::b1::b2::SJ v o::(G++UE x2 y2 z2 u2 mm::G2)⟩=
    some (.exit 4,⟨a,RB t by_ l fst::b1::b2::SJ v o::(G++UE x2 y2 z2 u2 mm::G2)⟩)/\pz a (.Xn ((x::y::z::u::mo m)::w)) v o.length (G.length+1+1+1+1) s24 s25 s26:=by
   apply VO
   ·rw[Xb];simp(decide:=true)only[Xo,Xr,VR,Vx,reduceIte,Nat.reduceEqDiff,Nat.reduceLeDiff,Nat.reduceAdd,x144_2,b,W,U,Wj,Xc,XF,F,C,Y,X,Wb,Wf,s,X4,J,h0,WK];rfl
   ·refine⟨?_,?_,?_,?_,?_,?_,?_,?_,?_⟩<;>simp only[Xo,reduceIte,Nat.reduceEqDiff]
  obtain⟨a,B,n⟩:=this;exact⟨a,G2,v,_,by rw[ZE];exact B,by rw[ZE];exact n,e⟩
 |@go x y z u m w H N F J h T=>
  intro q g k v o G2 e M L;obtain⟨k,rfl⟩:∃D,k=D+1:=⟨k-1,by omega⟩;simp only[Zi]at M L;obtain rfl:=Sl.VP e;have f:∀d∈w,d.length=12:=fun d R=>q d (Zb _ R)
  obtain⟨j,B⟩:=qb (K:=K) (k:=k) (v:=v) (by_:=by_) (fst:=fst) (x2:=x2) (y2:=y2) (z2:=z2) (u2:=u2) (s24:=s24) (s25:=s25) (s26:=s26) (l:=l) (b1:=b1) (b2:=b2) (o:=o) s F C f (by omega) (by omega) J rfl G G2;obtain⟨a,P,I,c,n,O,Q⟩:=T f (.Xn w) k (v+1) (o++[x::y::z::u::mo m]) j .Xn (by simp;omega) (by omega);rw[Zq,ZY]at n O;rw[show(o++[x::y::z::u::mo m]).length=o.length+1 by simp]at n;exact⟨a,P,I,c,B.trans n,O,Q⟩
def fK (d:N')(t:Qm)(ts us:Z')(k:Nat):Prop:=∃n a e b p r,d=.bool n::a::.bool e::b::(mo t.2++[p,r,LA k])/\Ri [.bool n,a,.bool e,b] t.1/\XD t.2/\PQ p ts/\PQ r us
def TN (m:P')(t:Qm)(ts:Z'):Z':=XG t.1⁻¹ (XQ m t.2) ts
theorem eight {m:P'}(h:m.length=8):∃a b c d e f g i,m=[a,b,c,d,e,f,g,i]:=by
 match m,h with
 |[a,b,c,d,e,f,g,i],_=>exact⟨a,b,c,d,e,f,g,i,rfl⟩
theorem iB {B:Xs}(g:Std B){d:N'}{t:Qm}{i N:Z'}{k:Nat}(G:fK d t i N k){m:P'}(l:XD m)(o:Wn t.2 m=true)(A:Sq t.1)(h0:t.1≠0)(L:Sz i)(I:∀u∈i,XD (Xg (XQ m t.2) u.2))(H:i.length<1000000):
  ∃f,Xu B 142 [.agg d,.agg (mo m)] (.X9 [.one (.Xn f),.one (LA 0)])/\X5 f (TN m t i):=by
 obtain⟨n,a,e,b,p,r,rfl,q,j,J,R⟩:=G;obtain⟨c,D,z⟩:=bw g q A h0;have x:=bC g l j o;have M:t.1⁻¹≠0:=fun h=>h0 (by rw[<-Rat.inv_inv t.1,h];exact Rat.inv_zero)
 obtain⟨f,y,F⟩:=q5 g z A.inv M (UG l j) J L I H;obtain⟨n',O,Q,P,rfl⟩:=z.len;have C:=(UG l j).1;obtain⟨t1,t2⟩:=t;obtain⟨S,T,U,V,W,X,Y,Z,rfl⟩:=eight j.1;obtain⟨m1,m2,m3,m4,m5,m6,m7,m8,rfl⟩:=eight l.1;obtain⟨s1,s2,s3,s4,s5,s6,s7,C,v⟩:=eight C;simp only[v]at x y;refine⟨f,Xu.of (g.Wa _ _ rfl) ((D.Xk.and (x.Xk.and (y.Xk.and g.Xk))).mono fun E K ⟨e1,e2,w,s⟩=> ?_),F⟩;simp only[mo,Zt,ZN,ZU,ZF]at e2 w⊢;simp only[Xo,Xr,VR,reduceIte,Nat.reduceEqDiff,Nat.reduceLeDiff,Nat.reduceAdd,x142,s,X4,e1,e2,w]
def gM (t:Qm)(ts:Z')(s:Qm)(ss:Z'):Z':=Wh (TN (XJ t.2 s.2) t ts) (Wu (TN (XJ t.2 s.2) s ss))
theorem fK.cells {d:N'}{t:Qm}{v w:Z'}{k:Nat}(h:fK d t v w k):∃a b c e f m2 g i j l m o p r,d=[a,b,c,e,LA f,LA m2,LA g,LA i,LA j,LA l,LA m,LA o,p,r,LA k]/\t.2=[f,m2,g,i,j,l,m,o]:=by
 obtain⟨n,a,e,b,p,r,rfl,q,u,x,y⟩:=h;obtain⟨f,m2,g,i,j,l,m,o,s⟩:=eight u.1;exact⟨_,_,_,_,f,m2,g,i,j,l,m,o,_,_,by rw[s];rfl,s⟩
theorem fK.tS {d:N'}{t:Qm}{f g:Z'}{k:Nat}(h:fK d t f g k):XD t.2:=by
 obtain⟨n,a,e,b,p,r,rfl,q,c,i,j⟩:=h;exact c
theorem OF {B:Xs}(c:Std B){p q:N'}{t s:Qm}{e U d V:Z'}{k j:Nat}(f:fK p t e U k)(g:fK q s d V j)(A:Sq t.1)(T:t.1≠0)(z:Sq s.1)(S:s.1≠0)(X:Sz e)(W:Sz d)
  (I:∀u∈e,XD (Xg (XQ (XJ t.2 s.2) t.2) u.2)) (H:∀u∈d,XD (Xg (XQ (XJ t.2 s.2) s.2) u.2)) (R:Sz (TN (XJ t.2 s.2) t e)) (Q:Sz (TN (XJ t.2 s.2) s d)) (D:e.length<400000) (C:d.length<400000):
  ∃a,Xu B 98 [.agg p,.agg q] (.X9 [.one (.Xn a),.one (LA 0)])/\X5 a (gM t e s d):=by
 have m:=f.tS;have m2:=g.tS;have h:=rj c m m2;have l:=bO m m2;have b:t.2.length=s.2.length:=by rw[m.1,m2.1]
 obtain⟨F,n,J⟩:=iB c f l (Tu _ _ b) A T X I (by omega);obtain⟨G,o,L⟩:=iB c g l (Tt _ _ b) z S W H (by omega);have N:PQ (.Xn F) _:=⟨_,.Xn,J⟩;have O:PQ (.Xn G) _:=⟨_,.Xn,L⟩;obtain⟨a,P,M⟩:=lW c N O R Q (by simpa[TN,XG]using D) (by simpa[TN,XG]using C);obtain⟨Y,Z,a3,a4,x1,x2,x3,x4,x5,x6,x7,x8,a5,a6,rfl,e1⟩:=f.cells;obtain⟨b1,b2,b3,b4,y1,y2,y3,y4,y5,y6,y7,y8,b5,b6,rfl,e2⟩:=g.cells;obtain⟨l1,l2,l3,l4,l5,l6,l7,l8,r⟩:=eight l.1;simp only[e1,e2]at h n o r;simp only[r]at h n o;refine⟨a,Xu.of (c.Wa _ _ rfl) ((h.Xk.and (n.Xk.and (o.Xk.and (P.Xk.and c.Xk)))).mono fun E K ⟨v,w,x,y,i⟩=> ?_),M⟩;simp only[mo,Zt,ZN]at v w x⊢;simp only[Xo,Xr,VR,reduceIte,Nat.reduceEqDiff,Nat.reduceLeDiff,Nat.reduceAdd,x98,i,X4,v,w,x,y]
theorem UT {m n:P'}(a:m.length=8)(c:n.length=8):UJ false .i64 8 [.agg (Xw m),.agg (Xw n)]=some ⟨.one (.p (.bool (decide (m=n)))),[],[],[]⟩:=by
 have b:Nat.beq (Xw m).length 8=true:=by rw[Xc,a];rfl
 simp only[UJ,Va.pure,b,cond_true,Uq m n (by rw[a,c])];simp
theorem gg {E:Xa}{K:Nat}(c:E.mode=md){lo by_ fst lp c1 c2 c3 c4 x y z u:PL}{s24 s25 s26:DL}{l v n:Nat}(a:65535<=l){B2 B3:Xx}{G:V'}{m b:P'}(t:m.length=8)(s:b.length=8)(f:∀e∈Xg b m,e<=65535){k:Nat}(A:9<=k):
  ∃d,Xb E K 0 [1,4,6,10,11,13,24,25,26,30] x144_1 k ⟨[(1,.one (.p lp)),(4,.one (.ptr 0 0 0 0)),(6,.one (.ptr 1 0 0 0)),(10,.one (.ptr 2 0 0 0)),(11,.one (.own 3 v 0 n)),(13,.one (.ptr (G.length+1+1+1+1) 0 0 0)),(24,.one s24),(25,.one s25),(26,.one s26),(30,LB 0)],RB lo by_ l fst::UE c1 c2 c3 c4 m::B2::B3::(G++[UE x y z u b])⟩=
   some (.exit 2,⟨d,RB lo by_ l fst::UE c1 c2 c3 c4 m::B2::B3::(G++[UE x y z u (Xg b m)])⟩)/\pz d lp v n (G.length+1+1+1+1) s24 s25 s26:=by
 obtain⟨B,C,D,F,H,I,J,L,rfl⟩:=eight s;obtain⟨M,m2,N,O,P,Q,R,S,rfl⟩:=eight t;obtain⟨k,rfl⟩:∃w,k=w+9:=⟨k-9,by omega⟩;simp only[Xg,ZC,YF,Zj,ZV,or_false,forall_eq_or_imp,forall_eq]at f;obtain⟨h0,g,h,i,j,o,q,r⟩:=f;exact CV c a h0 g h i j o q r
theorem Ed {E:Xa}{K k v i:Nat}(f:E.mode=md)(h9:9<=K){lo by_ fst lp C c1 c2 c3 c4 q s t w x y z u F z2 H I:PL}{l:Nat}(A:65535<=l){m b:P'}(O:m.length=8)(L:b.length=8)(hs:∀e∈Xg b m,e<=65535){a:I'}(S:Sl C a)(V:a.length<1000000)(W:a[i]? =some (x::y::z::u::mo b))
  (B:E.pure 64 [.agg [q,s,t,w],.agg [x,y,z,u]]=some (.agg [F,z2,H,I])) {g j rs:I'} (Q:TC E lo (Xg b m) g j []) (J:∀d∈g,d.length=12) (R:Sl lp g) {o:I'} (a0:o.length+g.length<900000) (hK:g.length<K) (b0:j.length<=g.length)
  {r:Int} (P:E.pure 158 [.agg [F,z2,H,I]]=some (.one (.int .i64 r))) (h0:Oi r (.ofNat 0)=false) (G:V'):
  ∃G' T c,Xb E K 0 [1,4,6,10,11,24,25,26] x144_3 (k+1) ⟨[(1,.one (.p lp)),(4,.one (.ptr 0 0 0 0)),(6,.one (.ptr 1 0 0 0)),(10,.one (.ptr 2 0 0 0)),(11,.one (.own 3 v 0 o.length)),(24,.one (.p C)),(25,LB a.length),(26,LB i)],RB lo by_ l fst::UE c1 c2 c3 c4 m::NX q s t w::SJ v o::G⟩=
   Xb E K 0 [1,4,6,10,11,24,25,26] x144_3 k ⟨[(1,.one (.p c)),(4,.one (.ptr 0 0 0 0)),(6,.one (.ptr 1 0 0 0)),(10,.one (.ptr 2 0 0 0)),(11,.one (.own 3 T 0 (o.length+j.length+1))),(24,.one (.p C)),(25,LB a.length),(26,LB (i+1))],RB lo by_ l fst::UE c1 c2 c3 c4 m::NX q s t w::SJ T ((o++j)++[F::z2::H::I::mo (Xg b m)])::G'⟩/\Sl c []:=by
 have N:i<a.length:=(Zf.mp W).1;have m8:=O;have Z:=L;have U:(Xg b m).length=8:=by simp[Xg,O,L]
 have tk:(Xw b).take 8=Xw b:=Zd (by rw[Xc];omega);have dk:(Xw b).drop 8=[]:=Zo (by rw[Xc];omega);have ta:(Xw (Xg b m)).take 8=Xw (Xg b m):=Zd (by rw[Xc];omega);have da:(Xw (Xg b m)).drop 8=[]:=Zo (by rw[Xc];omega);have ip:=fun(hh:HF) (kd:IntKind)=>S.idx (h:=hh) (k:=kd) (sz:=12) W (by simp[XF,Z])
 have f1:Xe .i64 (.ofNat (i+1))=.ofNat (i+1):=wrap_i64 (by omega);have f2:(o.length+j.length+1)*128<=lim:=by unfold lim;omega
 have f3:o.length+j.length+1<=9223372036854775807:=by omega
 have w1:=X0 b;have w2:=X0 (Xg b m);obtain⟨T1,Y,a1,a2,a3,a4,a5,a6,a7,a8,a9⟩:=gg (K:=K) (by_:=by_) (fst:=fst) (lp:=lp) (c1:=c1) (c2:=c2) (c3:=c3) (c4:=c4) (x:=x) (y:=y) (z:=z) (u:=u) (lo:=lo) (s24:=.p C) (s25:=.p (LA a.length)) (s26:=.p (LA i)) (v:=v) (n:=o.length) (B2:=NX q s t w) (B3:=SJ v o) (G:=G) f A O L hs h9;obtain⟨T2,G2,T,c,X,⟨e1,e2,e3,e4,e5,e6,e7,e8,e9⟩,D⟩:=aR (K:=K) (by_:=by_) (fst:=fst) (l:=l) (x2:=F) (y2:=z2) (z2:=H) (u2:=I) (s24:=.p C) (s25:=.p (LA a.length)) (s26:=.p (LA i)) (b1:=UE c1 c2 c3 c4 m) (b2:=NX q s t w) f U G Q J lp K v o [] R (by omega) hK;simp only[RB,UE,NX,SJ]at Y X;have M:=D.len;apply Exists.intro;apply Exists.intro;refine⟨c,?_,D⟩;rw[Xb];simp(decide:=true)only[Xo,Xr,VR,Vx,reduceIte,Nat.reduceEqDiff,Nat.reduceLeDiff,Nat.reduceAdd,x144_3,f,X4,N,ip,f1,f2,f3,B,Y,a1,a2,a3,a4,a5,a6,a7,a8,a9,X,e1,e2,e3,e4,e5,e6,e7,e8,e9,M,Wj,Xc,Z,U,tk,ta,UC,WK,W8,Zq,Zm,Wm,VL,P,h0];rfl
theorem AU {q1 q2 q3 q4:PL}{n:P'}{E:Xa}{K k v i:Nat}(f:E.mode=md)(h9:9<=K){lo by_ fst lp F c1 c2 c3 c4 s t w A x y z u H z2 I J:PL}{l:Nat}(C:65535<=l){m b:P'}(R:m.length=8)(O:b.length=8)(hs:∀e∈Xg b m,e<=65535){a:I'}(Z:Sl F a)(a0:a.length<1000000)(hi:a[i]? =some (x::y::z::u::mo b))
  (D:E.pure 64 [.agg [s,t,w,A],.agg [x,y,z,u]]=some (.agg [H,z2,I,J])) {j q X:I'} (V:TC E lo (Xg b m) j q ((q1::q2::q3::q4::mo n)::X)) (M:∀d∈j,d.length=12) (Y:Sl lp j) {o:I'} (b0:o.length+j.length<900000) (hK:j.length<K) (b3:q.length<=j.length)
  {r:Int} (S:n.length=8) (T:n≠Xg b m) (U:E.pure 158 [.agg [H,z2,I,J]]=some (.one (.int .i64 r))) (h0:Oi r (.ofNat 0)=false) (G:V'):
  ∃G' v' g,Xb E K 0 [1,4,6,10,11,24,25,26] x144_3 (k+1) ⟨[(1,.one (.p lp)),(4,.one (.ptr 0 0 0 0)),(6,.one (.ptr 1 0 0 0)),(10,.one (.ptr 2 0 0 0)),(11,.one (.own 3 v 0 o.length)),(24,.one (.p F)),(25,LB a.length),(26,LB i)],RB lo by_ l fst::UE c1 c2 c3 c4 m::NX s t w A::SJ v o::G⟩=
   Xb E K 0 [1,4,6,10,11,24,25,26] x144_3 k ⟨[(1,.one (.p g)),(4,.one (.ptr 0 0 0 0)),(6,.one (.ptr 1 0 0 0)),(10,.one (.ptr 2 0 0 0)),(11,.one (.own 3 v' 0 (o.length+q.length+1))),(24,.one (.p F)),(25,LB a.length),(26,LB (i+1))],RB lo by_ l fst::UE c1 c2 c3 c4 m::NX s t w A::SJ v' ((o++q)++[H::z2::I::J::mo (Xg b m)])::G'⟩/\Sl g ((q1::q2::q3::q4::mo n)::X):=by
 have Q:i<a.length:=(Zf.mp hi).1;have m8:=R;have k8:=O;have L:(Xg b m).length=8:=by simp[Xg,R,O]
 have tk:(Xw b).take 8=Xw b:=Zd (by rw[Xc];omega);have dk:(Xw b).drop 8=[]:=Zo (by rw[Xc];omega);have ta:(Xw (Xg b m)).take 8=Xw (Xg b m):=Zd (by rw[Xc];omega);have da:(Xw (Xg b m)).drop 8=[]:=Zo (by rw[Xc];omega);have ip:=fun(N:HF) (W:IntKind)=>Z.idx (h:=N) (k:=W) (sz:=12) hi (by simp[XF,k8])
 have f1:Xe .i64 (.ofNat (i+1))=.ofNat (i+1):=wrap_i64 (by omega);have f2:(o.length+q.length+1)*128<=lim:=by unfold lim;omega
 have f3:o.length+q.length+1<=9223372036854775807:=by omega
 have w1:=X0 b;have w2:=X0 (Xg b m);obtain⟨T1,hx,a1,a2,a3,a4,a5,a6,a7,a8,a9⟩:=gg (K:=K) (by_:=by_) (fst:=fst) (lp:=lp) (c1:=c1) (c2:=c2) (c3:=c3) (c4:=c4) (x:=x) (y:=y) (z:=z) (u:=u) (lo:=lo) (s24:=.p F) (s25:=.p (LA a.length)) (s26:=.p (LA i)) (v:=v) (n:=o.length) (B2:=NX s t w A) (B3:=SJ v o) (G:=G) f C R O hs h9;obtain⟨T2,G2,v',g,hw,⟨e1,e2,e3,e4,e5,e6,e7,e8,e9⟩,c⟩:=aR (K:=K) (by_:=by_) (fst:=fst) (l:=l) (x2:=H) (y2:=z2) (z2:=I) (u2:=J) (s24:=.p F) (s25:=.p (LA a.length)) (s26:=.p (LA i)) (b1:=UE c1 c2 c3 c4 m) (b2:=NX s t w A) f L G V M lp K v o [] Y (by omega) hK;simp only[RB,UE,NX,SJ]at hx hw;obtain rfl:=Sl.VP c;have P:=c.len;have ir:=fun(N:HF) (W:IntKind)=>c.idx (h:=N) (k:=W) (i:=0) (sz:=12) rfl (by simp[XF,S])
 have l1:0<X.length+1:=by omega
 have tn:(Xw n).take 8=Xw n:=Zd (by rw[Xc];omega);have dn:(Xw n).drop 8=[]:=Zo (by rw[Xc];omega);have B:=UT S L;rw[decide_eq_false T]at B;apply Exists.intro;apply Exists.intro;refine⟨_,?_,c⟩;rw[Xb];simp(decide:=true)only[Xo,Xr,VR,Vx,reduceIte,Nat.reduceEqDiff,Nat.reduceLeDiff,Nat.reduceAdd,x144_3,f,X4,Q,ip,f1,f2,f3,D,hx,a1,a2,a3,a4,a5,a6,a7,a8,a9,hw,e1,e2,e3,e4,e5,e6,e7,e8,e9,P,Wj,Xc,XF,k8,L,tk,ta,UC,WK,W8,Zq,Zm,Wm,VL,U,h0,ir,l1,B,tn,S];rfl
theorem sub_eq {V W X Y:PL}{E:Xa}{K k v i:Nat}(f:E.mode=md)(h9:9<=K){lo by_ fst lp J c1 c2 c3 c4 t w A B x y z u z1 z2 z3 z4:PL}{l:Nat}(H:65535<=l){m a:P'}(Q:m.length=8)(N:a.length=8)(hs:∀e∈Xg a m,e<=65535){b:I'}(b0:Sl J b)(b3:b.length<1000000)(hi:b[i]? =some (x::y::z::u::mo a))
  (I:E.pure 64 [.agg [t,w,A,B],.agg [x,y,z,u]]=some (.agg [z1,z2,z3,z4])) {es q s:I'} (S:TC E lo (Xg a m) es q ((V::W::X::Y::mo (Xg a m))::s)) (L:∀d∈es,d.length=12) (a0:Sl lp es) {o:I'} (b4:o.length+es.length<900000) (hK:es.length<K) (b5:q.length<=es.length)
  {r:Int} {Z r2 r3 r4:PL} (T:∀d∈s,d.length=12) (D:E.pure 157 [.agg [V,W,X,Y],.agg [z1,z2,z3,z4]]=some (.agg [Z,r2,r3,r4])) (R:E.pure 158 [.agg [Z,r2,r3,r4]]=some (.one (.int .i64 r))) (h0:Oi r (.ofNat 0)=false) (G:V'):
  ∃G' v' g,Xb E K 0 [1,4,6,10,11,24,25,26] x144_3 (k+1) ⟨[(1,.one (.p lp)),(4,.one (.ptr 0 0 0 0)),(6,.one (.ptr 1 0 0 0)),(10,.one (.ptr 2 0 0 0)),(11,.one (.own 3 v 0 o.length)),(24,.one (.p J)),(25,LB b.length),(26,LB i)],RB lo by_ l fst::UE c1 c2 c3 c4 m::NX t w A B::SJ v o::G⟩=
   Xb E K 0 [1,4,6,10,11,24,25,26] x144_3 k ⟨[(1,.one (.p g)),(4,.one (.ptr 0 0 0 0)),(6,.one (.ptr 1 0 0 0)),(10,.one (.ptr 2 0 0 0)),(11,.one (.own 3 v' 0 (o.length+q.length+1))),(24,.one (.p J)),(25,LB b.length),(26,LB (i+1))],RB lo by_ l fst::UE c1 c2 c3 c4 m::NX t w A B::SJ v' ((o++q)++[Z::r2::r3::r4::mo (Xg a m)])::G'⟩/\Sl g s:=by
 have P:i<b.length:=(Zf.mp hi).1;have m8:=Q;have k8:=N;have C:(Xg a m).length=8:=by simp[Xg,Q,N]
 have tk:(Xw a).take 8=Xw a:=Zd (by rw[Xc];omega);have dk:(Xw a).drop 8=[]:=Zo (by rw[Xc];omega);have ta:(Xw (Xg a m)).take 8=Xw (Xg a m):=Zd (by rw[Xc];omega);have da:(Xw (Xg a m)).drop 8=[]:=Zo (by rw[Xc];omega);have ip:=fun(M:HF) (U:IntKind)=>b0.idx (h:=M) (k:=U) (sz:=12) hi (by simp[XF,k8])
 have f1:Xe .i64 (.ofNat (i+1))=.ofNat (i+1):=wrap_i64 (by omega);have f2:(o.length+q.length+1)*128<=lim:=by unfold lim;omega
 have f3:o.length+q.length+1<=9223372036854775807:=by omega
 have w1:=X0 a;have w2:=X0 (Xg a m);obtain⟨T1,hx,a1,a2,a3,a4,a5,a6,a7,a8,a9⟩:=gg (K:=K) (by_:=by_) (fst:=fst) (lp:=lp) (c1:=c1) (c2:=c2) (c3:=c3) (c4:=c4) (x:=x) (y:=y) (z:=z) (u:=u) (lo:=lo) (s24:=.p J) (s25:=.p (LA b.length)) (s26:=.p (LA i)) (v:=v) (n:=o.length) (B2:=NX t w A B) (B3:=SJ v o) (G:=G) f H Q N hs h9;obtain⟨T2,G2,v',g,hw,⟨e1,e2,e3,e4,e5,e6,e7,e8,e9⟩,j⟩:=aR (K:=K) (by_:=by_) (fst:=fst) (l:=l) (x2:=z1) (y2:=z2) (z2:=z3) (u2:=z4) (s24:=.p J) (s25:=.p (LA b.length)) (s26:=.p (LA i)) (b1:=UE c1 c2 c3 c4 m) (b2:=NX t w A B) f C G S L lp K v o [] a0 (by omega) hK;simp only[RB,UE,NX,SJ]at hx hw;obtain rfl:=Sl.VP j;have O:=j.len;have hn:=C;have ir:=fun(M:HF) (U:IntKind)=>j.idx (h:=M) (k:=U) (i:=0) (sz:=12) rfl (by simp[XF,hn])
 have l1:0<s.length+1:=by omega
 have tn:(Xw (Xg a m)).take 8=Xw (Xg a m):=Zd (by rw[Xc];omega);have dn:(Xw (Xg a m)).drop 8=[]:=Zo (by rw[Xc];omega);have F:=UT C C;rw[decide_eq_true rfl]at F;have j1:¬(G.length+(G2.length+1)<=G.length):=by omega
 have s1:=Uf (c:=V::W::X::Y::mo (Xg a m)) (es:=s) T;apply Exists.intro;apply Exists.intro;refine⟨.Xn s,?_,.Xn⟩;rw[Xb];simp(decide:=true)only[Xo,Xr,VR,Vx,reduceIte,Nat.reduceEqDiff,Nat.reduceLeDiff,Nat.reduceAdd,x144_3,f,X4,P,ip,f1,f2,f3,I,hx,a1,a2,a3,a4,a5,a6,a7,a8,a9,hw,e1,e2,e3,e4,e5,e6,e7,e8,e9,O,Wj,Xc,XF,k8,C,tk,ta,UC,WK,W8,Zq,Zm,Wm,VL,D,R,h0,ir,l1,F,s1,j1];rfl
theorem sub_zero {V W X Y:PL}{E:Xa}{K k v i:Nat}(f:E.mode=md)(h9:9<=K){lo by_ fst lp J c1 c2 c3 c4 t w A B x y z u z1 z2 z3 z4:PL}{l:Nat}(H:65535<=l){m a:P'}(Q:m.length=8)(N:a.length=8)(hs:∀e∈Xg a m,e<=65535){b:I'}(a0:Sl J b)(b0:b.length<1000000)(hi:b[i]? =some (x::y::z::u::mo a))
  (I:E.pure 64 [.agg [t,w,A,B],.agg [x,y,z,u]]=some (.agg [z1,z2,z3,z4])) {es q s:I'} (S:TC E lo (Xg a m) es q ((V::W::X::Y::mo (Xg a m))::s)) (L:∀d∈es,d.length=12) (Z:Sl lp es) {o:I'} (b3:o.length+es.length<900000) (hK:es.length<K) (b4:q.length<=es.length)
  {r:Int} {r1 r2 r3 r4:PL} (T:∀d∈s,d.length=12) (D:E.pure 157 [.agg [V,W,X,Y],.agg [z1,z2,z3,z4]]=some (.agg [r1,r2,r3,r4])) (R:E.pure 158 [.agg [r1,r2,r3,r4]]=some (.one (.int .i64 r))) (h0:Oi r (.ofNat 0)=true) (G:V'):
  ∃G' v' g,Xb E K 0 [1,4,6,10,11,24,25,26] x144_3 (k+1) ⟨[(1,.one (.p lp)),(4,.one (.ptr 0 0 0 0)),(6,.one (.ptr 1 0 0 0)),(10,.one (.ptr 2 0 0 0)),(11,.one (.own 3 v 0 o.length)),(24,.one (.p J)),(25,LB b.length),(26,LB i)],RB lo by_ l fst::UE c1 c2 c3 c4 m::NX t w A B::SJ v o::G⟩=
   Xb E K 0 [1,4,6,10,11,24,25,26] x144_3 k ⟨[(1,.one (.p g)),(4,.one (.ptr 0 0 0 0)),(6,.one (.ptr 1 0 0 0)),(10,.one (.ptr 2 0 0 0)),(11,.one (.own 3 v' 0 (o.length+q.length))),(24,.one (.p J)),(25,LB b.length),(26,LB (i+1))],RB lo by_ l fst::UE c1 c2 c3 c4 m::NX t w A B::SJ v' ((o++q))::G'⟩/\Sl g s:=by
 have P:i<b.length:=(Zf.mp hi).1;have m8:=Q;have k8:=N;have C:(Xg a m).length=8:=by simp[Xg,Q,N]
 have tk:(Xw a).take 8=Xw a:=Zd (by rw[Xc];omega);have dk:(Xw a).drop 8=[]:=Zo (by rw[Xc];omega);have ta:(Xw (Xg a m)).take 8=Xw (Xg a m):=Zd (by rw[Xc];omega);have da:(Xw (Xg a m)).drop 8=[]:=Zo (by rw[Xc];omega);have ip:=fun(M:HF) (U:IntKind)=>a0.idx (h:=M) (k:=U) (sz:=12) hi (by simp[XF,k8])
 have f1:Xe .i64 (.ofNat (i+1))=.ofNat (i+1):=wrap_i64 (by omega);have f2:(o.length+q.length+1)*128<=lim:=by unfold lim;omega
 have f3:o.length+q.length+1<=9223372036854775807:=by omega
 have w1:=X0 a;have w2:=X0 (Xg a m);obtain⟨T1,hx,a1,a2,a3,a4,a5,a6,a7,a8,a9⟩:=gg (K:=K) (by_:=by_) (fst:=fst) (lp:=lp) (c1:=c1) (c2:=c2) (c3:=c3) (c4:=c4) (x:=x) (y:=y) (z:=z) (u:=u) (lo:=lo) (s24:=.p J) (s25:=.p (LA b.length)) (s26:=.p (LA i)) (v:=v) (n:=o.length) (B2:=NX t w A B) (B3:=SJ v o) (G:=G) f H Q N hs h9;obtain⟨T2,G2,v',g,hw,⟨e1,e2,e3,e4,e5,e6,e7,e8,e9⟩,j⟩:=aR (K:=K) (by_:=by_) (fst:=fst) (l:=l) (x2:=z1) (y2:=z2) (z2:=z3) (u2:=z4) (s24:=.p J) (s25:=.p (LA b.length)) (s26:=.p (LA i)) (b1:=UE c1 c2 c3 c4 m) (b2:=NX t w A B) f C G S L lp K v o [] Z (by omega) hK;simp only[RB,UE,NX,SJ]at hx hw;obtain rfl:=Sl.VP j;have O:=j.len;have hn:=C;have ir:=fun(M:HF) (U:IntKind)=>j.idx (h:=M) (k:=U) (i:=0) (sz:=12) rfl (by simp[XF,hn])
 have l1:0<s.length+1:=by omega
 have tn:(Xw (Xg a m)).take 8=Xw (Xg a m):=Zd (by rw[Xc];omega);have dn:(Xw (Xg a m)).drop 8=[]:=Zo (by rw[Xc];omega);have F:=UT C C;rw[decide_eq_true rfl]at F;have j1:¬(G.length+(G2.length+1)<=G.length):=by omega
 have s1:=Uf (c:=V::W::X::Y::mo (Xg a m)) (es:=s) T;apply Exists.intro;apply Exists.intro;refine⟨.Xn s,?_,.Xn⟩;rw[Xb];simp(decide:=true)only[Xo,Xr,VR,Vx,reduceIte,Nat.reduceEqDiff,Nat.reduceLeDiff,Nat.reduceAdd,x144_3,f,X4,P,ip,f1,I,hx,a1,a2,a3,a4,a5,a6,a7,a8,a9,hw,e1,e2,e3,e4,e5,e6,e7,e8,e9,O,Wj,Xc,XF,k8,C,tk,ta,WK,W8,Zm,D,R,h0,ir,l1,F,s1,j1];rfl
inductive kl (E:Xa)(lo:PL)(d:N')(m:P'):I'->I'->I'->I'->Prop
 |nil {es:I'}:kl E lo d m es [] [] es
 |none {x y z u z1 z2 z3 z4:PL} {kk:P'} {es os qs pre rest:I'} {r:Int} (hk:kk.length=8) (hs:∀e∈Xg kk m,e<=65535) (hmul:E.pure 64 [.agg d,.agg [x,y,z,u]]=some (.agg [z1,z2,z3,z4])) (hwh:TC E lo (Xg kk m) es os [])
   (hsg:E.pure 158 [.agg [z1,z2,z3,z4]]=some (.one (.int .i64 r))) (h0:Oi r (.ofNat 0)=false) (h:kl E lo d m [] qs pre rest):kl E lo d m es ((x::y::z::u::mo kk)::qs) (os++(z1::z2::z3::z4::mo (Xg kk m))::pre) rest
 |diff {x y z u z1 z2 z3 z4 q1 q2 q3 q4:PL} {kk n:P'} {es os rs qs pre rest:I'} {r:Int} (hk:kk.length=8) (hs:∀e∈Xg kk m,e<=65535) (hmul:E.pure 64 [.agg d,.agg [x,y,z,u]]=some (.agg [z1,z2,z3,z4])) (hwh:TC E lo (Xg kk m) es os ((q1::q2::q3::q4::mo n)::rs))
   (hn:n.length=8) (hne:n≠Xg kk m) (hsg:E.pure 158 [.agg [z1,z2,z3,z4]]=some (.one (.int .i64 r))) (h0:Oi r (.ofNat 0)=false) (h:kl E lo d m ((q1::q2::q3::q4::mo n)::rs) qs pre rest):
   kl E lo d m es ((x::y::z::u::mo kk)::qs) (os++(z1::z2::z3::z4::mo (Xg kk m))::pre) rest
 |eq {x y z u z1 z2 z3 z4 q1 q2 q3 q4 r1 r2 r3 r4:PL} {kk:P'} {es os rs qs pre rest:I'} {r:Int} (hk:kk.length=8) (hs:∀e∈Xg kk m,e<=65535) (hmul:E.pure 64 [.agg d,.agg [x,y,z,u]]=some (.agg [z1,z2,z3,z4])) (hwh:TC E lo (Xg kk m) es os ((q1::q2::q3::q4::mo (Xg kk m))::rs))
   (hadd:E.pure 157 [.agg [q1,q2,q3,q4],.agg [z1,z2,z3,z4]]=some (.agg [r1,r2,r3,r4])) (hsg:E.pure 158 [.agg [r1,r2,r3,r4]]=some (.one (.int .i64 r))) (h0:Oi r (.ofNat 0)=false) (h:kl E lo d m rs qs pre rest):
   kl E lo d m es ((x::y::z::u::mo kk)::qs) (os++(r1::r2::r3::r4::mo (Xg kk m))::pre) rest
 |zero {x y z u z1 z2 z3 z4 q1 q2 q3 q4 r1 r2 r3 r4:PL} {kk:P'} {es os rs qs pre rest:I'} {r:Int} (hk:kk.length=8) (hs:∀e∈Xg kk m,e<=65535) (hmul:E.pure 64 [.agg d,.agg [x,y,z,u]]=some (.agg [z1,z2,z3,z4])) (hwh:TC E lo (Xg kk m) es os ((q1::q2::q3::q4::mo (Xg kk m))::rs))
   (hadd:E.pure 157 [.agg [q1,q2,q3,q4],.agg [z1,z2,z3,z4]]=some (.agg [r1,r2,r3,r4])) (hsg:E.pure 158 [.agg [r1,r2,r3,r4]]=some (.one (.int .i64 r))) (h0:Oi r (.ofNat 0)=true) (h:kl E lo d m rs qs pre rest):
   kl E lo d m es ((x::y::z::u::mo kk)::qs) (os++pre) rest
theorem TC.app {E:Xa}{e:PL}{mm:P'}{a b c:I'}(h:TC E e mm a b c):a=b++c:=by
 induction h with
 |AW=>rfl
 |stop=>rfl
 |go g f h d=>rw[d];rfl
theorem GR {E:Xa}{K:Nat}(W:E.mode=md)(h9:9<=K){lo by_ fst lq c1 c2 c3 c4 d1 d2 d3 d4:PL}{l:Nat}(H:65535<=l){m:P'}(hm:m.length=8){t:I'}(Z:Sl lq t)(a2:t.length<400000){F Y a rest:I'}(h:kl E lo [d1,d2,d3,d4] m F Y a rest):
  (∀d∈F,d.length=12)->∀(R:PL) (i k v:Nat) (o:I') (G:V'),Sl R F->t.drop i=Y->i+Y.length=t.length->o.length+F.length+Y.length<900000->F.length<K->Y.length<k->
  ∃j T S g,Xb E K 0 [1,4,6,10,11,24,25,26] x144_3 k ⟨[(1,.one (.p R)),(4,.one (.ptr 0 0 0 0)),(6,.one (.ptr 1 0 0 0)),(10,.one (.ptr 2 0 0 0)),(11,.one (.own 3 v 0 o.length)),(24,.one (.p lq)),(25,LB t.length),(26,LB i)],RB lo by_ l fst::UE c1 c2 c3 c4 m::NX d1 d2 d3 d4::SJ v o::G⟩=
   some (.exit 0,⟨j,RB lo by_ l fst::UE c1 c2 c3 c4 m::NX d1 d2 d3 d4::SJ S (o++a)::T⟩)/\(Xh j 1=some (.one (.p g))/\Xh j 11=some (.one (.own 3 S 0 (o++a).length)))/\Sl g rest/\(∀d∈rest,d.length=12):=by
 induction h with
 |@nil F=>
  intro b R i k v o G sp s V ho hK hk;obtain⟨k,rfl⟩:∃X,k=X+1:=⟨k-1,by omega⟩;have a0:¬i<t.length:=by simp at V;omega
  have :∃j,Xb E K 0 [1,4,6,10,11,24,25,26] x144_3 (k+1) ⟨[(1,.one (.p R)),(4,.one (.ptr 0 0 0 0)),(6,.one (.ptr 1 0 0 0)),(10,.one (.ptr 2 0 0 0)),(11,.one (.own 3 v 0 o.length)),(24,.one (.p lq)),(25,LB t.length),(26,LB i)],RB lo by_ l fst::UE c1 c2 c3 c4 m::NX d1 d2 d3 d4::SJ v o::G⟩=
   some (.exit 0,⟨j,RB lo by_ l fst::UE c1 c2 c3 c4 m::NX d1 d2 d3 d4::SJ v o::G⟩)/\(Xh j 1=some (.one (.p R))/\Xh j 11=some (.one (.own 3 v 0 o.length))):=by
   apply VO
   ·rw[Xb];simp only[Xo,Xr,reduceIte,Nat.reduceEqDiff,x144_3,a0];rfl
   ·refine⟨?_,?_⟩<;>simp only[Xo,reduceIte,Nat.reduceEqDiff]
  obtain⟨j,U,q⟩:=this;exact⟨j,G,v,R,by rw[ZE];exact U,by rw[ZE];exact q,sp,b⟩
 |@none x y z u M N O P B F c Y a rest r hk hs e f A h0 h ih=>
  intro b R i k v o G sp s V ho hK w;obtain⟨k,rfl⟩:∃X,k=X+1:=⟨k-1,by omega⟩;simp only[Zi]at V ho w;obtain⟨gp,dp⟩:=Xi s;have Q:=f.app;have el:F.length=c.length+0:=by rw[Q];simp
  obtain⟨G1,v1,C,U,D⟩:=Ed (rs:=[]) (k:=k) (v:=v) (by_:=by_) (fst:=fst) (c1:=c1) (c2:=c2) (c3:=c3) (c4:=c4) (o:=o) W h9 H hm hk hs Z (by omega) gp e f b sp (by omega) hK (by omega) A h0 G;obtain⟨j,T,S,g,q,I,g4⟩:=ih (fun _ s=>by cases s) C (i+1) k v1 (o++c++[M::N::O::P::mo (Xg B m)]) G1 D dp (by omega) (by simp;omega) (by simp;omega) (by omega);rw[show(o++c++[M::N::O::P::mo (Xg B m)]).length=o.length+c.length+1 by simp;omega]at q;rw[show o++c++[M::N::O::P::mo (Xg B m)]++a=o++(c++(M::N::O::P::mo (Xg B m))::a)by simp]at q I;exact⟨j,T,S,g,U.trans q,I,g4⟩
 |@diff x y z u M N O P q1 q2 q3 q4 B n F c rs Y a rest r hk hs e f hn a1 A h0 h ih=>
  intro b R i k v o G sp s V ho hK w;obtain⟨k,rfl⟩:∃X,k=X+1:=⟨k-1,by omega⟩;simp only[Zi]at V ho w;obtain⟨gp,dp⟩:=Xi s;have Q:=f.app;have el:F.length=c.length+(rs.length+1):=by rw[Q];simp
  obtain⟨G1,v1,C,U,D⟩:=AU (k:=k) (v:=v) (by_:=by_) (fst:=fst) (c1:=c1) (c2:=c2) (c3:=c3) (c4:=c4) (o:=o) W h9 H hm hk hs Z (by omega) gp e f b sp (by omega) hK (by omega) hn a1 A h0 G;obtain⟨j,T,S,g,q,I,g4⟩:=ih (fun d s=>b d (by rw[Q];exact List.mem_append_right _ s)) C (i+1) k v1 (o++c++[M::N::O::P::mo (Xg B m)]) G1 D dp (by omega) (by simp;omega) (by simp;omega) (by omega);rw[show(o++c++[M::N::O::P::mo (Xg B m)]).length=o.length+c.length+1 by simp;omega]at q;rw[show o++c++[M::N::O::P::mo (Xg B m)]++a=o++(c++(M::N::O::P::mo (Xg B m))::a)by simp]at q I;exact⟨j,T,S,g,U.trans q,I,g4⟩
 |@eq x y z u M N O P q1 q2 q3 q4 r1 r2 r3 r4 B F c rs Y a rest r hk hs e f J A h0 h ih=>
  intro b R i k v o G sp s V ho hK w;obtain⟨k,rfl⟩:∃X,k=X+1:=⟨k-1,by omega⟩;simp only[Zi]at V ho w;obtain⟨gp,dp⟩:=Xi s;have Q:=f.app;have el:F.length=c.length+(rs.length+1):=by rw[Q];simp
  have L:∀d∈rs,d.length=12:=fun d s=>b d (by rw[Q];exact List.mem_append_right _ (Zb _ s))
  obtain⟨G1,v1,C,U,D⟩:=sub_eq (k:=k) (v:=v) (by_:=by_) (fst:=fst) (c1:=c1) (c2:=c2) (c3:=c3) (c4:=c4) (o:=o) W h9 H hm hk hs Z (by omega) gp e f b sp (by omega) hK (by omega) L J A h0 G;obtain⟨j,T,S,g,q,I,g4⟩:=ih L C (i+1) k v1 (o++c++[r1::r2::r3::r4::mo (Xg B m)]) G1 D dp (by omega) (by simp;omega) (by omega) (by omega);rw[show(o++c++[r1::r2::r3::r4::mo (Xg B m)]).length=o.length+c.length+1 by simp;omega]at q;rw[show o++c++[r1::r2::r3::r4::mo (Xg B m)]++a=o++(c++(r1::r2::r3::r4::mo (Xg B m))::a)by simp]at q I;exact⟨j,T,S,g,U.trans q,I,g4⟩
 |@zero x y z u M N O P q1 q2 q3 q4 r1 r2 r3 r4 B F c rs Y a rest r hk hs e f J A h0 h ih=>
  intro b R i k v o G sp s V ho hK w;obtain⟨k,rfl⟩:∃X,k=X+1:=⟨k-1,by omega⟩;simp only[Zi]at V ho w;obtain⟨gp,dp⟩:=Xi s;have Q:=f.app;have el:F.length=c.length+(rs.length+1):=by rw[Q];simp
  have L:∀d∈rs,d.length=12:=fun d s=>b d (by rw[Q];exact List.mem_append_right _ (Zb _ s))
  obtain⟨G1,v1,C,U,D⟩:=sub_zero (k:=k) (v:=v) (by_:=by_) (fst:=fst) (c1:=c1) (c2:=c2) (c3:=c3) (c4:=c4) (o:=o) W h9 H hm hk hs Z (by omega) gp e f b sp (by omega) hK (by omega) L J A h0 G;obtain⟨j,T,S,g,q,I,g4⟩:=ih L C (i+1) k v1 (o++c) G1 D dp (by omega) (by simp;omega) (by omega) (by omega);rw[show(o++c).length=o.length+c.length by simp]at q;rw[Zq]at q I;exact⟨j,T,S,g,U.trans q,I,g4⟩
end Go.Proofs.YtidginchkjhobaaGreat
namespace Go.Num
def VT (o:M')(mm:P'):Z'->Z'×Z'
 |[]=>([],[])
 |s::p=>if WX o s.2 mm=.ofNat 1 then(s::(VT o mm p).1,(VT o mm p).2)else([],s::p)
def TS (o:M')(c:Rat)(m:P'):Z'->Z'->Z'
 |p,[]=>p
 |p,t::q=>match VT o (Xg t.2 m) p with
  |(os,[])=>os++(c*t.1,Xg t.2 m)::TS o c m [] q
  |(os,s::rs)=>if s.2=Xg t.2 m then(if s.1+c*t.1=0 then os++TS o c m rs q else os++(s.1+c*t.1,Xg t.2 m)::TS o c m rs q)else os++(c*t.1,Xg t.2 m)::TS o c m (s::rs) q
end Go.Num
namespace Go.Proofs.YtidginchkjhobaaGreat
open Go.Ev Go.Num
theorem kY {B:Xs}(v:Std B){z:PL}{o:M'}(A:TR z o)(w:Vt o)(g:o.length<1000000){mm:P'}(f:XD mm):∀{u:I'} {p:Z'},X5 u p->∃t j,(XS B fun E _=>TC E z mm u t j)/\X5 t (VT o mm p).1/\X5 j (VT o mm p).2
 |_,_,.nil=>⟨[],[],XS.of fun _ _=>.AW,.nil,.nil⟩
 |_,_,.cons (x:=c) (y:=s) m h=>by
  have r:=m;obtain⟨n,a,d,b,rfl,q,l⟩:=r;have k:=dB v A w l f g;unfold VT;by_cases i:WX o s.2 mm=.ofNat 1
  ·rw[if_pos i];rw[i]at k;obtain⟨t,j,C,D,F⟩:=kY v A w g f h;exact⟨_,j,(C.and k.Xk).mono fun E K ⟨e1,e2⟩=>.go l.1 e2 e1,.cons m D,F⟩
  ·rw[if_neg i];refine⟨[],_,k.Xk.mono fun E K e=>.stop l.1 e ?_,.nil,.cons m h⟩;rcases Ul o s.2 mm with h2|h2|h2
   ·exact absurd h2 i
   ·rw[h2];rfl
   ·rw[h2];rfl
theorem Sz.sub {a b:Z'}(h:Sz a)(c:∀t∈b,t∈a):Sz b:=fun t d=>h t (c t d)
theorem PF (o:M')(mm:P'):∀p,(VT o mm p).1++(VT o mm p).2=p
 |[]=>rfl
 |s::p=>by
  unfold VT;split
  ·rw[ZU,PF o mm p]
  ·rfl
theorem fP {B:Xs}(j:Std B){lo:PL}{o:M'}(S:TR lo o)(O:Vt o)(g:o.length<1000000){d:N'}{c:Rat}(M:Ri d c)(L:Sq c)(I:c≠0){m:P'}(W:XD m):∀{qs:I'} {q:Z'},X5 qs q->Sz q->(∀t∈q,XD (Xg t.2 m)/\t.1≠0/\Sq (c*t.1))->
  ∀{es:I'} {p:Z'},X5 es p->Sz p->∃f rest,(XS B fun E _=>kl E lo d m es qs f rest)/\X5 (f++rest) (TS o c m p q)
 |_,_,.nil,_,_,es,p,hp,_=>⟨[],es,XS.of fun _ _=>.nil,hp⟩
 |_,_,.cons (x:=x) (y:=t) (ys:=q) ht h,hz,hq,es,p,hp,zp=>by
  obtain⟨i,h2,h3⟩:=hq t (Zc ..);have A:∀t∈q,XD (Xg t.2 m)/\t.1≠0/\Sq (c*t.1):=fun u Z=>hq u (Zb _ Z)
  obtain⟨os,rs,J,F,g3⟩:=kY j S O g i hp;have k:=PF o (Xg t.2 m) p;have Y:=ht;obtain⟨n,a,e,b,rfl,qq,N⟩:=Y;obtain⟨w,Q,H⟩:=bu j M qq L hz.head;have U:c*t.1≠0:=fun h=>(Rat.mul_eq_zero.1 h).elim I h2
  have k3:=Nv j H;have k0:=yq U;obtain⟨n1,a1,d1,b1,rfl⟩:=H.len;unfold TS;generalize a0:VT o (Xg t.2 m) p=sp at F g3 k;obtain⟨P,R⟩:=sp;cases g3 with
  |nil=>
   obtain⟨f,rest,C,D⟩:=fP j S O g M L I W h hz.tail A (es:=[]) (p:=[]) .nil Sz.nil;refine⟨_,rest,(J.and (Q.Xk.and (k3.Xk.and C))).mono fun E K ⟨e1,e2,l,z⟩=>.none N.1 i.2 e2 e1 l k0 z,?_⟩;rw[Zq,ZU];exact F.append (.cons (W0.mk H i) D)
  |@cons r s rs R hr hR=>
   have zR:Sz (s::R):=zp.sub fun u Z=>by rw[<-k];exact List.mem_append_right _ Z
   have X:=hr;obtain⟨n2,a2,d2,b2,rfl,q2,V⟩:=X;show∃f rest,_/\X5 (f++rest) (if s.2=Xg t.2 m then(if s.1+c*t.1=0 then P++TS o c m R _ else P++(s.1+c*t.1,Xg t.2 m)::TS o c m R _)else P++(c*t.1,Xg t.2 m)::TS o c m (s::R) _);by_cases G:s.2=Xg t.2 m
   ·rw[if_pos G];obtain⟨s1,s2⟩:=s;simp only at G;subst G;obtain⟨v,v1,v2⟩:=iA j q2 H zR.head h3;have v3:=Nv j v2;obtain⟨n3,a3,d3,b3,rfl⟩:=v2.len;obtain⟨f,rest,C,D⟩:=fP j S O g M L I W h hz.tail A hR zR.tail;by_cases h0:s1+c*t.1=0
    ·rw[if_pos h0];simp only[h0]at v3;refine⟨_,rest,(J.and (Q.Xk.and (v1.Xk.and (v3.Xk.and C)))).mono fun E K ⟨e1,e2,l,z,T⟩=>.zero N.1 i.2 e2 e1 l z Ji T,?_⟩;rw[Zq];exact F.append D
    ·rw[if_neg h0];refine⟨_,rest,(J.and (Q.Xk.and (v1.Xk.and (v3.Xk.and C)))).mono fun E K ⟨e1,e2,l,z,T⟩=>.eq N.1 i.2 e2 e1 l z (yq h0) T,?_⟩;rw[Zq,ZU];exact F.append (.cons (W0.mk v2 i) D)
   ·rw[if_neg G];obtain⟨f,rest,C,D⟩:=fP j S O g M L I W h hz.tail A (.cons hr hR) zR;refine⟨_,rest,(J.and (Q.Xk.and (k3.Xk.and C))).mono fun E K ⟨e1,e2,l,z⟩=>.diff N.1 i.2 e2 e1 V.1 G l k0 z,?_⟩;rw[Zq,ZU];exact F.append (.cons (W0.mk H i) D)
theorem aW (o:M')(c:Rat)(m:P'):∀(q p:Z'),(TS o c m p q).length<=p.length+q.length
 |[],p=>by simp[TS]
 |t::q,p=>by
  have a:=congrArg List.length (PF o (Xg t.2 m) p);rw[Zm]at a;unfold TS;generalize VT o (Xg t.2 m) p=sp at a;obtain⟨P,R⟩:=sp;cases R with
  |nil=>
   have:=aW o c m q [];simp only[Zm,Zi,Zr]at a this⊢;omega
  |cons s R=>
   have d:=aW o c m q R;have b:=aW o c m q (s::R);simp only[Zi]at a b⊢;split
   ·split<;>simp only[Zm,Zi]<;>omega
   ·simp only[Zm,Zi];omega
theorem nH {B:Xs}(v:Std B){P by_ fst:PL}{l:Nat}(j:65535<=l){o:M'}(so:TR P o)(ho:Vt o)(C:o.length<1000000){R:N'}{s:Qm}(hs:W0 R s)(U:Sq s.1)(s0:s.1≠0){lp Q:PL}{p q:Z'}(m:PQ lp p)(zp:Sz p)(x:PQ Q q)(zq:Sz q)
  (F:∀t∈q,XD (Xg t.2 s.2)/\t.1≠0/\Sq (-s.1*t.1)) (l1:p.length<400000) (l2:q.length<400000):
  ∃g,Xu B 144 [.agg [P,by_,LA l,fst],.one lp,.agg R,.one Q] (.X9 [.one (.Xn g),.one (.bool true)])/\X5 g (TS o (-s.1) s.2 p q):=by
 obtain⟨i,S,m⟩:=m;obtain⟨u,T,x⟩:=x;have V:=m.length;have W:=x.length;obtain⟨I,J,c3,c4,rfl,w,A⟩:=hs;obtain⟨d,h1,M⟩:=iy v w U;have n0: -s.1≠0:=fun h=>s0 (by rw[<-Rat.neg_neg s.1,h];rfl)
 obtain⟨f,rest,g1,L⟩:=fP v so ho C M U.neg n0 A x zq F m zp;obtain⟨n,a,e,b,rfl⟩:=M.len;refine⟨f++rest,Xu.of (v.Wa _ _ rfl) ((g1.and (h1.Xk.and (v.Xk.and (XS.ge (i.length+u.length+10))))).mono fun E K ⟨e1,e2,k,hK⟩=> ?_),L⟩;obtain⟨T',G',v',a1,H,⟨k2,O⟩,k4,k5⟩:=GR (K:=K) (by_:=by_) (fst:=fst) (c1:=.bool I) (c2:=J) (c3:=.bool c3) (c4:=c4) k (by omega) j A.1 T (by omega) e1 (fun d z=>QN.len (X5.bU m d z)) lp 0 K 0 [] [] S rfl (by omega) (by simp;omega) (by omega) (by omega);rw[ZF]at H O;have m8:=A.1;have tm:(Xw s.2).take 8=Xw s.2:=Zd (by rw[Xc];omega);have X:Xe .i64 (.ofNat (i.length+u.length))=.ofNat (i.length+u.length):=wrap_i64 (by omega);have Y:128*(i.length+u.length)<=lim:=by unfold lim;omega
 have Z:i.length+u.length<=9223372036854775807:=by omega
 have w1:=X0 s.2;have y:=fun h=>k4.chunks (h:=h)
 have D:=L.length;have a0:=aW o (-s.1) s.2 q p;rw[Zm]at D;have f3:(f.length+rest.length)*128<=lim:=by unfold lim;omega
 have f4:f.length+rest.length<=9223372036854775807:=by omega
 have f5:(rest.map (·.map DL.p)).all (fun c=>decide (c.length=12))=true:=by
  rw[ZI];intro c w;simp only[ZM]at w;obtain⟨d,z,rfl⟩:=w;simp[k5 d z]
 have f6:(rest.map (·.map DL.p)).length=rest.length:=by simp
 have G:=WV (f++rest) (Ze _);have N:=fun h=>Ve 5 h (f++rest)
 have r:=B1 f rest;rw[Zm]at G;simp only[Zr,RB,UE,NX,SJ,pc,ZN]at H;simp only[pc]at G N r;simp only[Xo,Xr,VR,reduceIte,Nat.reduceEqDiff,Nat.reduceLeDiff,Nat.reduceAdd,Zw,x144,S.len,T.len,k,X4,Wj,Xc,m8,e2,X,Y,Z,H,k2,O,y,f3,f4,f5,f6,r,G,N,ZP,Zm,Ze]
end Go.Proofs.YtidginchkjhobaaGreat
