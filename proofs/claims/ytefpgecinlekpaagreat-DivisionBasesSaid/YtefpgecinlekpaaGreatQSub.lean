/- Division: subtract, the loop over the exponents (written by gen_qsub.py). -/
import Derived.Test.YtefpgecinlekpaaGreatQDec
set_option maxHeartbeats 16000000
set_option maxRecDepth 100000
namespace Go.Proofs.YtefpgecinlekpaaGreat
open Go.Ev Go.Num
theorem exps_0 {E:Oracle}{K k:Nat}(hmd:E.mode=md){lo by_ fst c1 c2 c3 c4 x y z u:PL}{p s10 s11 s24 s25 s26:DL}{lim_:Nat}(hlim:65535<=lim_){B2 B3:Blk}{G:List Blk}{k1 k2 k3 k4 k5 k6 k7 k8 m1 m2 m3 m4 m5 m6 m7 m8:Nat}(h:k1+m1<=65535):
  Xa E K 0 [1,4,6,10,11,13,24,25,26,30] x105_1 (k+1) ⟨[(1,.one p),(4,.one (.ptr 0 0 0 0)),(6,.one (.ptr 1 0 0 0)),(10,.one s10),(11,.one s11),(13,.one (.ptr (G.length+1+1+1+1) 0 0 0)),(24,.one s24),(25,.one s25),(26,.one s26),(30,.one (.p (.int .i64 (.ofNat 0))))],⟨false,0,4,[[.p lo,.p by_,.p (.int .i64 (.ofNat lim_)),.p fst]],false,94⟩::⟨false,0,12,[[.p c1,.p c2,.p c3,.p c4,.p (.int .i64 (.ofNat m1)),.p (.int .i64 (.ofNat m2)),.p (.int .i64 (.ofNat m3)),.p (.int .i64 (.ofNat m4)),.p (.int .i64 (.ofNat m5)),.p (.int .i64 (.ofNat m6)),.p (.int .i64 (.ofNat m7)),.p (.int .i64 (.ofNat m8))]],false,63⟩::B2::B3::(G++[⟨false,0,12,[[.p x,.p y,.p z,.p u,.p (.int .i64 (.ofNat k1)),.p (.int .i64 (.ofNat k2)),.p (.int .i64 (.ofNat k3)),.p (.int .i64 (.ofNat k4)),.p (.int .i64 (.ofNat k5)),.p (.int .i64 (.ofNat k6)),.p (.int .i64 (.ofNat k7)),.p (.int .i64 (.ofNat k8))]],false,63⟩])⟩=Xa E K 0 [1,4,6,10,11,13,24,25,26,30] x105_1 k ⟨[(1,.one p),(4,.one (.ptr 0 0 0 0)),(6,.one (.ptr 1 0 0 0)),(10,.one s10),(11,.one s11),(13,.one (.ptr (G.length+1+1+1+1) 0 0 0)),(24,.one s24),(25,.one s25),(26,.one s26),(30,.one (.p (.int .i64 (.ofNat 1))))],⟨false,0,4,[[.p lo,.p by_,.p (.int .i64 (.ofNat lim_)),.p fst]],false,94⟩::⟨false,0,12,[[.p c1,.p c2,.p c3,.p c4,.p (.int .i64 (.ofNat m1)),.p (.int .i64 (.ofNat m2)),.p (.int .i64 (.ofNat m3)),.p (.int .i64 (.ofNat m4)),.p (.int .i64 (.ofNat m5)),.p (.int .i64 (.ofNat m6)),.p (.int .i64 (.ofNat m7)),.p (.int .i64 (.ofNat m8))]],false,63⟩::B2::B3::(G++[⟨false,0,12,[[.p x,.p y,.p z,.p u,.p (.int .i64 (.ofNat (k1+m1))),.p (.int .i64 (.ofNat k2)),.p (.int .i64 (.ofNat k3)),.p (.int .i64 (.ofNat k4)),.p (.int .i64 (.ofNat k5)),.p (.int .i64 (.ofNat k6)),.p (.int .i64 (.ofNat k7)),.p (.int .i64 (.ofNat k8))]],false,63⟩])⟩:=by
 have f1:Xd .i64 (.ofNat (k1+m1))=.ofNat (k1+m1):=wrap_i64 (by omega)
 have f2:¬lim_<k1+m1:=by omega
 have f3:Xd .i64 (.ofNat 1)=.ofNat 1:=rfl
 rw[Xa]
 simp(decide:=true)only[EVS,EVN,EVF,reduceIte,Nat.reduceEqDiff,Nat.reduceLeDiff,Nat.reduceAdd,x105_1,f1,f2,f3]
theorem exps_1 {E:Oracle}{K k:Nat}(hmd:E.mode=md){lo by_ fst c1 c2 c3 c4 x y z u:PL}{p s10 s11 s24 s25 s26:DL}{lim_:Nat}(hlim:65535<=lim_){B2 B3:Blk}{G:List Blk}{k1 k2 k3 k4 k5 k6 k7 k8 m1 m2 m3 m4 m5 m6 m7 m8:Nat}(h:k2+m2<=65535):
  Xa E K 0 [1,4,6,10,11,13,24,25,26,30] x105_1 (k+1) ⟨[(1,.one p),(4,.one (.ptr 0 0 0 0)),(6,.one (.ptr 1 0 0 0)),(10,.one s10),(11,.one s11),(13,.one (.ptr (G.length+1+1+1+1) 0 0 0)),(24,.one s24),(25,.one s25),(26,.one s26),(30,.one (.p (.int .i64 (.ofNat 1))))],⟨false,0,4,[[.p lo,.p by_,.p (.int .i64 (.ofNat lim_)),.p fst]],false,94⟩::⟨false,0,12,[[.p c1,.p c2,.p c3,.p c4,.p (.int .i64 (.ofNat m1)),.p (.int .i64 (.ofNat m2)),.p (.int .i64 (.ofNat m3)),.p (.int .i64 (.ofNat m4)),.p (.int .i64 (.ofNat m5)),.p (.int .i64 (.ofNat m6)),.p (.int .i64 (.ofNat m7)),.p (.int .i64 (.ofNat m8))]],false,63⟩::B2::B3::(G++[⟨false,0,12,[[.p x,.p y,.p z,.p u,.p (.int .i64 (.ofNat (k1+m1))),.p (.int .i64 (.ofNat k2)),.p (.int .i64 (.ofNat k3)),.p (.int .i64 (.ofNat k4)),.p (.int .i64 (.ofNat k5)),.p (.int .i64 (.ofNat k6)),.p (.int .i64 (.ofNat k7)),.p (.int .i64 (.ofNat k8))]],false,63⟩])⟩=Xa E K 0 [1,4,6,10,11,13,24,25,26,30] x105_1 k ⟨[(1,.one p),(4,.one (.ptr 0 0 0 0)),(6,.one (.ptr 1 0 0 0)),(10,.one s10),(11,.one s11),(13,.one (.ptr (G.length+1+1+1+1) 0 0 0)),(24,.one s24),(25,.one s25),(26,.one s26),(30,.one (.p (.int .i64 (.ofNat 2))))],⟨false,0,4,[[.p lo,.p by_,.p (.int .i64 (.ofNat lim_)),.p fst]],false,94⟩::⟨false,0,12,[[.p c1,.p c2,.p c3,.p c4,.p (.int .i64 (.ofNat m1)),.p (.int .i64 (.ofNat m2)),.p (.int .i64 (.ofNat m3)),.p (.int .i64 (.ofNat m4)),.p (.int .i64 (.ofNat m5)),.p (.int .i64 (.ofNat m6)),.p (.int .i64 (.ofNat m7)),.p (.int .i64 (.ofNat m8))]],false,63⟩::B2::B3::(G++[⟨false,0,12,[[.p x,.p y,.p z,.p u,.p (.int .i64 (.ofNat (k1+m1))),.p (.int .i64 (.ofNat (k2+m2))),.p (.int .i64 (.ofNat k3)),.p (.int .i64 (.ofNat k4)),.p (.int .i64 (.ofNat k5)),.p (.int .i64 (.ofNat k6)),.p (.int .i64 (.ofNat k7)),.p (.int .i64 (.ofNat k8))]],false,63⟩])⟩:=by
 have f1:Xd .i64 (.ofNat (k2+m2))=.ofNat (k2+m2):=wrap_i64 (by omega)
 have f2:¬lim_<k2+m2:=by omega
 have f3:Xd .i64 (.ofNat 2)=.ofNat 2:=rfl
 rw[Xa]
 simp(decide:=true)only[EVS,EVN,EVF,reduceIte,Nat.reduceEqDiff,Nat.reduceLeDiff,Nat.reduceAdd,x105_1,f1,f2,f3]
theorem exps_2 {E:Oracle}{K k:Nat}(hmd:E.mode=md){lo by_ fst c1 c2 c3 c4 x y z u:PL}{p s10 s11 s24 s25 s26:DL}{lim_:Nat}(hlim:65535<=lim_){B2 B3:Blk}{G:List Blk}{k1 k2 k3 k4 k5 k6 k7 k8 m1 m2 m3 m4 m5 m6 m7 m8:Nat}(h:k3+m3<=65535):
  Xa E K 0 [1,4,6,10,11,13,24,25,26,30] x105_1 (k+1) ⟨[(1,.one p),(4,.one (.ptr 0 0 0 0)),(6,.one (.ptr 1 0 0 0)),(10,.one s10),(11,.one s11),(13,.one (.ptr (G.length+1+1+1+1) 0 0 0)),(24,.one s24),(25,.one s25),(26,.one s26),(30,.one (.p (.int .i64 (.ofNat 2))))],⟨false,0,4,[[.p lo,.p by_,.p (.int .i64 (.ofNat lim_)),.p fst]],false,94⟩::⟨false,0,12,[[.p c1,.p c2,.p c3,.p c4,.p (.int .i64 (.ofNat m1)),.p (.int .i64 (.ofNat m2)),.p (.int .i64 (.ofNat m3)),.p (.int .i64 (.ofNat m4)),.p (.int .i64 (.ofNat m5)),.p (.int .i64 (.ofNat m6)),.p (.int .i64 (.ofNat m7)),.p (.int .i64 (.ofNat m8))]],false,63⟩::B2::B3::(G++[⟨false,0,12,[[.p x,.p y,.p z,.p u,.p (.int .i64 (.ofNat (k1+m1))),.p (.int .i64 (.ofNat (k2+m2))),.p (.int .i64 (.ofNat k3)),.p (.int .i64 (.ofNat k4)),.p (.int .i64 (.ofNat k5)),.p (.int .i64 (.ofNat k6)),.p (.int .i64 (.ofNat k7)),.p (.int .i64 (.ofNat k8))]],false,63⟩])⟩=Xa E K 0 [1,4,6,10,11,13,24,25,26,30] x105_1 k ⟨[(1,.one p),(4,.one (.ptr 0 0 0 0)),(6,.one (.ptr 1 0 0 0)),(10,.one s10),(11,.one s11),(13,.one (.ptr (G.length+1+1+1+1) 0 0 0)),(24,.one s24),(25,.one s25),(26,.one s26),(30,.one (.p (.int .i64 (.ofNat 3))))],⟨false,0,4,[[.p lo,.p by_,.p (.int .i64 (.ofNat lim_)),.p fst]],false,94⟩::⟨false,0,12,[[.p c1,.p c2,.p c3,.p c4,.p (.int .i64 (.ofNat m1)),.p (.int .i64 (.ofNat m2)),.p (.int .i64 (.ofNat m3)),.p (.int .i64 (.ofNat m4)),.p (.int .i64 (.ofNat m5)),.p (.int .i64 (.ofNat m6)),.p (.int .i64 (.ofNat m7)),.p (.int .i64 (.ofNat m8))]],false,63⟩::B2::B3::(G++[⟨false,0,12,[[.p x,.p y,.p z,.p u,.p (.int .i64 (.ofNat (k1+m1))),.p (.int .i64 (.ofNat (k2+m2))),.p (.int .i64 (.ofNat (k3+m3))),.p (.int .i64 (.ofNat k4)),.p (.int .i64 (.ofNat k5)),.p (.int .i64 (.ofNat k6)),.p (.int .i64 (.ofNat k7)),.p (.int .i64 (.ofNat k8))]],false,63⟩])⟩:=by
 have f1:Xd .i64 (.ofNat (k3+m3))=.ofNat (k3+m3):=wrap_i64 (by omega)
 have f2:¬lim_<k3+m3:=by omega
 have f3:Xd .i64 (.ofNat 3)=.ofNat 3:=rfl
 rw[Xa]
 simp(decide:=true)only[EVS,EVN,EVF,reduceIte,Nat.reduceEqDiff,Nat.reduceLeDiff,Nat.reduceAdd,x105_1,f1,f2,f3]
theorem exps_3 {E:Oracle}{K k:Nat}(hmd:E.mode=md){lo by_ fst c1 c2 c3 c4 x y z u:PL}{p s10 s11 s24 s25 s26:DL}{lim_:Nat}(hlim:65535<=lim_){B2 B3:Blk}{G:List Blk}{k1 k2 k3 k4 k5 k6 k7 k8 m1 m2 m3 m4 m5 m6 m7 m8:Nat}(h:k4+m4<=65535):
  Xa E K 0 [1,4,6,10,11,13,24,25,26,30] x105_1 (k+1) ⟨[(1,.one p),(4,.one (.ptr 0 0 0 0)),(6,.one (.ptr 1 0 0 0)),(10,.one s10),(11,.one s11),(13,.one (.ptr (G.length+1+1+1+1) 0 0 0)),(24,.one s24),(25,.one s25),(26,.one s26),(30,.one (.p (.int .i64 (.ofNat 3))))],⟨false,0,4,[[.p lo,.p by_,.p (.int .i64 (.ofNat lim_)),.p fst]],false,94⟩::⟨false,0,12,[[.p c1,.p c2,.p c3,.p c4,.p (.int .i64 (.ofNat m1)),.p (.int .i64 (.ofNat m2)),.p (.int .i64 (.ofNat m3)),.p (.int .i64 (.ofNat m4)),.p (.int .i64 (.ofNat m5)),.p (.int .i64 (.ofNat m6)),.p (.int .i64 (.ofNat m7)),.p (.int .i64 (.ofNat m8))]],false,63⟩::B2::B3::(G++[⟨false,0,12,[[.p x,.p y,.p z,.p u,.p (.int .i64 (.ofNat (k1+m1))),.p (.int .i64 (.ofNat (k2+m2))),.p (.int .i64 (.ofNat (k3+m3))),.p (.int .i64 (.ofNat k4)),.p (.int .i64 (.ofNat k5)),.p (.int .i64 (.ofNat k6)),.p (.int .i64 (.ofNat k7)),.p (.int .i64 (.ofNat k8))]],false,63⟩])⟩=Xa E K 0 [1,4,6,10,11,13,24,25,26,30] x105_1 k ⟨[(1,.one p),(4,.one (.ptr 0 0 0 0)),(6,.one (.ptr 1 0 0 0)),(10,.one s10),(11,.one s11),(13,.one (.ptr (G.length+1+1+1+1) 0 0 0)),(24,.one s24),(25,.one s25),(26,.one s26),(30,.one (.p (.int .i64 (.ofNat 4))))],⟨false,0,4,[[.p lo,.p by_,.p (.int .i64 (.ofNat lim_)),.p fst]],false,94⟩::⟨false,0,12,[[.p c1,.p c2,.p c3,.p c4,.p (.int .i64 (.ofNat m1)),.p (.int .i64 (.ofNat m2)),.p (.int .i64 (.ofNat m3)),.p (.int .i64 (.ofNat m4)),.p (.int .i64 (.ofNat m5)),.p (.int .i64 (.ofNat m6)),.p (.int .i64 (.ofNat m7)),.p (.int .i64 (.ofNat m8))]],false,63⟩::B2::B3::(G++[⟨false,0,12,[[.p x,.p y,.p z,.p u,.p (.int .i64 (.ofNat (k1+m1))),.p (.int .i64 (.ofNat (k2+m2))),.p (.int .i64 (.ofNat (k3+m3))),.p (.int .i64 (.ofNat (k4+m4))),.p (.int .i64 (.ofNat k5)),.p (.int .i64 (.ofNat k6)),.p (.int .i64 (.ofNat k7)),.p (.int .i64 (.ofNat k8))]],false,63⟩])⟩:=by
 have f1:Xd .i64 (.ofNat (k4+m4))=.ofNat (k4+m4):=wrap_i64 (by omega)
 have f2:¬lim_<k4+m4:=by omega
 have f3:Xd .i64 (.ofNat 4)=.ofNat 4:=rfl
 rw[Xa]
 simp(decide:=true)only[EVS,EVN,EVF,reduceIte,Nat.reduceEqDiff,Nat.reduceLeDiff,Nat.reduceAdd,x105_1,f1,f2,f3]
theorem exps_4 {E:Oracle}{K k:Nat}(hmd:E.mode=md){lo by_ fst c1 c2 c3 c4 x y z u:PL}{p s10 s11 s24 s25 s26:DL}{lim_:Nat}(hlim:65535<=lim_){B2 B3:Blk}{G:List Blk}{k1 k2 k3 k4 k5 k6 k7 k8 m1 m2 m3 m4 m5 m6 m7 m8:Nat}(h:k5+m5<=65535):
  Xa E K 0 [1,4,6,10,11,13,24,25,26,30] x105_1 (k+1) ⟨[(1,.one p),(4,.one (.ptr 0 0 0 0)),(6,.one (.ptr 1 0 0 0)),(10,.one s10),(11,.one s11),(13,.one (.ptr (G.length+1+1+1+1) 0 0 0)),(24,.one s24),(25,.one s25),(26,.one s26),(30,.one (.p (.int .i64 (.ofNat 4))))],⟨false,0,4,[[.p lo,.p by_,.p (.int .i64 (.ofNat lim_)),.p fst]],false,94⟩::⟨false,0,12,[[.p c1,.p c2,.p c3,.p c4,.p (.int .i64 (.ofNat m1)),.p (.int .i64 (.ofNat m2)),.p (.int .i64 (.ofNat m3)),.p (.int .i64 (.ofNat m4)),.p (.int .i64 (.ofNat m5)),.p (.int .i64 (.ofNat m6)),.p (.int .i64 (.ofNat m7)),.p (.int .i64 (.ofNat m8))]],false,63⟩::B2::B3::(G++[⟨false,0,12,[[.p x,.p y,.p z,.p u,.p (.int .i64 (.ofNat (k1+m1))),.p (.int .i64 (.ofNat (k2+m2))),.p (.int .i64 (.ofNat (k3+m3))),.p (.int .i64 (.ofNat (k4+m4))),.p (.int .i64 (.ofNat k5)),.p (.int .i64 (.ofNat k6)),.p (.int .i64 (.ofNat k7)),.p (.int .i64 (.ofNat k8))]],false,63⟩])⟩=Xa E K 0 [1,4,6,10,11,13,24,25,26,30] x105_1 k ⟨[(1,.one p),(4,.one (.ptr 0 0 0 0)),(6,.one (.ptr 1 0 0 0)),(10,.one s10),(11,.one s11),(13,.one (.ptr (G.length+1+1+1+1) 0 0 0)),(24,.one s24),(25,.one s25),(26,.one s26),(30,.one (.p (.int .i64 (.ofNat 5))))],⟨false,0,4,[[.p lo,.p by_,.p (.int .i64 (.ofNat lim_)),.p fst]],false,94⟩::⟨false,0,12,[[.p c1,.p c2,.p c3,.p c4,.p (.int .i64 (.ofNat m1)),.p (.int .i64 (.ofNat m2)),.p (.int .i64 (.ofNat m3)),.p (.int .i64 (.ofNat m4)),.p (.int .i64 (.ofNat m5)),.p (.int .i64 (.ofNat m6)),.p (.int .i64 (.ofNat m7)),.p (.int .i64 (.ofNat m8))]],false,63⟩::B2::B3::(G++[⟨false,0,12,[[.p x,.p y,.p z,.p u,.p (.int .i64 (.ofNat (k1+m1))),.p (.int .i64 (.ofNat (k2+m2))),.p (.int .i64 (.ofNat (k3+m3))),.p (.int .i64 (.ofNat (k4+m4))),.p (.int .i64 (.ofNat (k5+m5))),.p (.int .i64 (.ofNat k6)),.p (.int .i64 (.ofNat k7)),.p (.int .i64 (.ofNat k8))]],false,63⟩])⟩:=by
 have f1:Xd .i64 (.ofNat (k5+m5))=.ofNat (k5+m5):=wrap_i64 (by omega)
 have f2:¬lim_<k5+m5:=by omega
 have f3:Xd .i64 (.ofNat 5)=.ofNat 5:=rfl
 rw[Xa]
 simp(decide:=true)only[EVS,EVN,EVF,reduceIte,Nat.reduceEqDiff,Nat.reduceLeDiff,Nat.reduceAdd,x105_1,f1,f2,f3]
theorem exps_5 {E:Oracle}{K k:Nat}(hmd:E.mode=md){lo by_ fst c1 c2 c3 c4 x y z u:PL}{p s10 s11 s24 s25 s26:DL}{lim_:Nat}(hlim:65535<=lim_){B2 B3:Blk}{G:List Blk}{k1 k2 k3 k4 k5 k6 k7 k8 m1 m2 m3 m4 m5 m6 m7 m8:Nat}(h:k6+m6<=65535):
  Xa E K 0 [1,4,6,10,11,13,24,25,26,30] x105_1 (k+1) ⟨[(1,.one p),(4,.one (.ptr 0 0 0 0)),(6,.one (.ptr 1 0 0 0)),(10,.one s10),(11,.one s11),(13,.one (.ptr (G.length+1+1+1+1) 0 0 0)),(24,.one s24),(25,.one s25),(26,.one s26),(30,.one (.p (.int .i64 (.ofNat 5))))],⟨false,0,4,[[.p lo,.p by_,.p (.int .i64 (.ofNat lim_)),.p fst]],false,94⟩::⟨false,0,12,[[.p c1,.p c2,.p c3,.p c4,.p (.int .i64 (.ofNat m1)),.p (.int .i64 (.ofNat m2)),.p (.int .i64 (.ofNat m3)),.p (.int .i64 (.ofNat m4)),.p (.int .i64 (.ofNat m5)),.p (.int .i64 (.ofNat m6)),.p (.int .i64 (.ofNat m7)),.p (.int .i64 (.ofNat m8))]],false,63⟩::B2::B3::(G++[⟨false,0,12,[[.p x,.p y,.p z,.p u,.p (.int .i64 (.ofNat (k1+m1))),.p (.int .i64 (.ofNat (k2+m2))),.p (.int .i64 (.ofNat (k3+m3))),.p (.int .i64 (.ofNat (k4+m4))),.p (.int .i64 (.ofNat (k5+m5))),.p (.int .i64 (.ofNat k6)),.p (.int .i64 (.ofNat k7)),.p (.int .i64 (.ofNat k8))]],false,63⟩])⟩=Xa E K 0 [1,4,6,10,11,13,24,25,26,30] x105_1 k ⟨[(1,.one p),(4,.one (.ptr 0 0 0 0)),(6,.one (.ptr 1 0 0 0)),(10,.one s10),(11,.one s11),(13,.one (.ptr (G.length+1+1+1+1) 0 0 0)),(24,.one s24),(25,.one s25),(26,.one s26),(30,.one (.p (.int .i64 (.ofNat 6))))],⟨false,0,4,[[.p lo,.p by_,.p (.int .i64 (.ofNat lim_)),.p fst]],false,94⟩::⟨false,0,12,[[.p c1,.p c2,.p c3,.p c4,.p (.int .i64 (.ofNat m1)),.p (.int .i64 (.ofNat m2)),.p (.int .i64 (.ofNat m3)),.p (.int .i64 (.ofNat m4)),.p (.int .i64 (.ofNat m5)),.p (.int .i64 (.ofNat m6)),.p (.int .i64 (.ofNat m7)),.p (.int .i64 (.ofNat m8))]],false,63⟩::B2::B3::(G++[⟨false,0,12,[[.p x,.p y,.p z,.p u,.p (.int .i64 (.ofNat (k1+m1))),.p (.int .i64 (.ofNat (k2+m2))),.p (.int .i64 (.ofNat (k3+m3))),.p (.int .i64 (.ofNat (k4+m4))),.p (.int .i64 (.ofNat (k5+m5))),.p (.int .i64 (.ofNat (k6+m6))),.p (.int .i64 (.ofNat k7)),.p (.int .i64 (.ofNat k8))]],false,63⟩])⟩:=by
 have f1:Xd .i64 (.ofNat (k6+m6))=.ofNat (k6+m6):=wrap_i64 (by omega)
 have f2:¬lim_<k6+m6:=by omega
 have f3:Xd .i64 (.ofNat 6)=.ofNat 6:=rfl
 rw[Xa]
 simp(decide:=true)only[EVS,EVN,EVF,reduceIte,Nat.reduceEqDiff,Nat.reduceLeDiff,Nat.reduceAdd,x105_1,f1,f2,f3]
theorem exps_6 {E:Oracle}{K k:Nat}(hmd:E.mode=md){lo by_ fst c1 c2 c3 c4 x y z u:PL}{p s10 s11 s24 s25 s26:DL}{lim_:Nat}(hlim:65535<=lim_){B2 B3:Blk}{G:List Blk}{k1 k2 k3 k4 k5 k6 k7 k8 m1 m2 m3 m4 m5 m6 m7 m8:Nat}(h:k7+m7<=65535):
  Xa E K 0 [1,4,6,10,11,13,24,25,26,30] x105_1 (k+1) ⟨[(1,.one p),(4,.one (.ptr 0 0 0 0)),(6,.one (.ptr 1 0 0 0)),(10,.one s10),(11,.one s11),(13,.one (.ptr (G.length+1+1+1+1) 0 0 0)),(24,.one s24),(25,.one s25),(26,.one s26),(30,.one (.p (.int .i64 (.ofNat 6))))],⟨false,0,4,[[.p lo,.p by_,.p (.int .i64 (.ofNat lim_)),.p fst]],false,94⟩::⟨false,0,12,[[.p c1,.p c2,.p c3,.p c4,.p (.int .i64 (.ofNat m1)),.p (.int .i64 (.ofNat m2)),.p (.int .i64 (.ofNat m3)),.p (.int .i64 (.ofNat m4)),.p (.int .i64 (.ofNat m5)),.p (.int .i64 (.ofNat m6)),.p (.int .i64 (.ofNat m7)),.p (.int .i64 (.ofNat m8))]],false,63⟩::B2::B3::(G++[⟨false,0,12,[[.p x,.p y,.p z,.p u,.p (.int .i64 (.ofNat (k1+m1))),.p (.int .i64 (.ofNat (k2+m2))),.p (.int .i64 (.ofNat (k3+m3))),.p (.int .i64 (.ofNat (k4+m4))),.p (.int .i64 (.ofNat (k5+m5))),.p (.int .i64 (.ofNat (k6+m6))),.p (.int .i64 (.ofNat k7)),.p (.int .i64 (.ofNat k8))]],false,63⟩])⟩=Xa E K 0 [1,4,6,10,11,13,24,25,26,30] x105_1 k ⟨[(1,.one p),(4,.one (.ptr 0 0 0 0)),(6,.one (.ptr 1 0 0 0)),(10,.one s10),(11,.one s11),(13,.one (.ptr (G.length+1+1+1+1) 0 0 0)),(24,.one s24),(25,.one s25),(26,.one s26),(30,.one (.p (.int .i64 (.ofNat 7))))],⟨false,0,4,[[.p lo,.p by_,.p (.int .i64 (.ofNat lim_)),.p fst]],false,94⟩::⟨false,0,12,[[.p c1,.p c2,.p c3,.p c4,.p (.int .i64 (.ofNat m1)),.p (.int .i64 (.ofNat m2)),.p (.int .i64 (.ofNat m3)),.p (.int .i64 (.ofNat m4)),.p (.int .i64 (.ofNat m5)),.p (.int .i64 (.ofNat m6)),.p (.int .i64 (.ofNat m7)),.p (.int .i64 (.ofNat m8))]],false,63⟩::B2::B3::(G++[⟨false,0,12,[[.p x,.p y,.p z,.p u,.p (.int .i64 (.ofNat (k1+m1))),.p (.int .i64 (.ofNat (k2+m2))),.p (.int .i64 (.ofNat (k3+m3))),.p (.int .i64 (.ofNat (k4+m4))),.p (.int .i64 (.ofNat (k5+m5))),.p (.int .i64 (.ofNat (k6+m6))),.p (.int .i64 (.ofNat (k7+m7))),.p (.int .i64 (.ofNat k8))]],false,63⟩])⟩:=by
 have f1:Xd .i64 (.ofNat (k7+m7))=.ofNat (k7+m7):=wrap_i64 (by omega)
 have f2:¬lim_<k7+m7:=by omega
 have f3:Xd .i64 (.ofNat 7)=.ofNat 7:=rfl
 rw[Xa]
 simp(decide:=true)only[EVS,EVN,EVF,reduceIte,Nat.reduceEqDiff,Nat.reduceLeDiff,Nat.reduceAdd,x105_1,f1,f2,f3]
theorem exps_7 {E:Oracle}{K k:Nat}(hmd:E.mode=md){lo by_ fst c1 c2 c3 c4 x y z u:PL}{p s10 s11 s24 s25 s26:DL}{lim_:Nat}(hlim:65535<=lim_){B2 B3:Blk}{G:List Blk}{k1 k2 k3 k4 k5 k6 k7 k8 m1 m2 m3 m4 m5 m6 m7 m8:Nat}(h:k8+m8<=65535):
  Xa E K 0 [1,4,6,10,11,13,24,25,26,30] x105_1 (k+1) ⟨[(1,.one p),(4,.one (.ptr 0 0 0 0)),(6,.one (.ptr 1 0 0 0)),(10,.one s10),(11,.one s11),(13,.one (.ptr (G.length+1+1+1+1) 0 0 0)),(24,.one s24),(25,.one s25),(26,.one s26),(30,.one (.p (.int .i64 (.ofNat 7))))],⟨false,0,4,[[.p lo,.p by_,.p (.int .i64 (.ofNat lim_)),.p fst]],false,94⟩::⟨false,0,12,[[.p c1,.p c2,.p c3,.p c4,.p (.int .i64 (.ofNat m1)),.p (.int .i64 (.ofNat m2)),.p (.int .i64 (.ofNat m3)),.p (.int .i64 (.ofNat m4)),.p (.int .i64 (.ofNat m5)),.p (.int .i64 (.ofNat m6)),.p (.int .i64 (.ofNat m7)),.p (.int .i64 (.ofNat m8))]],false,63⟩::B2::B3::(G++[⟨false,0,12,[[.p x,.p y,.p z,.p u,.p (.int .i64 (.ofNat (k1+m1))),.p (.int .i64 (.ofNat (k2+m2))),.p (.int .i64 (.ofNat (k3+m3))),.p (.int .i64 (.ofNat (k4+m4))),.p (.int .i64 (.ofNat (k5+m5))),.p (.int .i64 (.ofNat (k6+m6))),.p (.int .i64 (.ofNat (k7+m7))),.p (.int .i64 (.ofNat k8))]],false,63⟩])⟩=Xa E K 0 [1,4,6,10,11,13,24,25,26,30] x105_1 k ⟨[(1,.one p),(4,.one (.ptr 0 0 0 0)),(6,.one (.ptr 1 0 0 0)),(10,.one s10),(11,.one s11),(13,.one (.ptr (G.length+1+1+1+1) 0 0 0)),(24,.one s24),(25,.one s25),(26,.one s26),(30,.one (.p (.int .i64 (.ofNat 8))))],⟨false,0,4,[[.p lo,.p by_,.p (.int .i64 (.ofNat lim_)),.p fst]],false,94⟩::⟨false,0,12,[[.p c1,.p c2,.p c3,.p c4,.p (.int .i64 (.ofNat m1)),.p (.int .i64 (.ofNat m2)),.p (.int .i64 (.ofNat m3)),.p (.int .i64 (.ofNat m4)),.p (.int .i64 (.ofNat m5)),.p (.int .i64 (.ofNat m6)),.p (.int .i64 (.ofNat m7)),.p (.int .i64 (.ofNat m8))]],false,63⟩::B2::B3::(G++[⟨false,0,12,[[.p x,.p y,.p z,.p u,.p (.int .i64 (.ofNat (k1+m1))),.p (.int .i64 (.ofNat (k2+m2))),.p (.int .i64 (.ofNat (k3+m3))),.p (.int .i64 (.ofNat (k4+m4))),.p (.int .i64 (.ofNat (k5+m5))),.p (.int .i64 (.ofNat (k6+m6))),.p (.int .i64 (.ofNat (k7+m7))),.p (.int .i64 (.ofNat (k8+m8)))]],false,63⟩])⟩:=by
 have f1:Xd .i64 (.ofNat (k8+m8))=.ofNat (k8+m8):=wrap_i64 (by omega)
 have f2:¬lim_<k8+m8:=by omega
 have f3:Xd .i64 (.ofNat 8)=.ofNat 8:=rfl
 rw[Xa]
 simp(decide:=true)only[EVS,EVN,EVF,reduceIte,Nat.reduceEqDiff,Nat.reduceLeDiff,Nat.reduceAdd,x105_1,f1,f2,f3]
theorem exps_all {E:Oracle}{K k:Nat}(hmd:E.mode=md){lo by_ fst c1 c2 c3 c4 x y z u:PL}{p s10 s11 s24 s25 s26:DL}{lim_:Nat}(hlim:65535<=lim_){B2 B3:Blk}{G:List Blk}{k1 k2 k3 k4 k5 k6 k7 k8 m1 m2 m3 m4 m5 m6 m7 m8:Nat}(h0:k1+m1<=65535)(h1:k2+m2<=65535)(h2:k3+m3<=65535)(h3:k4+m4<=65535)(h4:k5+m5<=65535)(h5:k6+m6<=65535)(h6:k7+m7<=65535)(h7:k8+m8<=65535):∃T',Xa E K 0 [1,4,6,10,11,13,24,25,26,30] x105_1 (k+9) ⟨[(1,.one p),(4,.one (.ptr 0 0 0 0)),(6,.one (.ptr 1 0 0 0)),(10,.one s10),(11,.one s11),(13,.one (.ptr (G.length+1+1+1+1) 0 0 0)),(24,.one s24),(25,.one s25),(26,.one s26),(30,.one (.p (.int .i64 (.ofNat 0))))],⟨false,0,4,[[.p lo,.p by_,.p (.int .i64 (.ofNat lim_)),.p fst]],false,94⟩::⟨false,0,12,[[.p c1,.p c2,.p c3,.p c4,.p (.int .i64 (.ofNat m1)),.p (.int .i64 (.ofNat m2)),.p (.int .i64 (.ofNat m3)),.p (.int .i64 (.ofNat m4)),.p (.int .i64 (.ofNat m5)),.p (.int .i64 (.ofNat m6)),.p (.int .i64 (.ofNat m7)),.p (.int .i64 (.ofNat m8))]],false,63⟩::B2::B3::(G++[⟨false,0,12,[[.p x,.p y,.p z,.p u,.p (.int .i64 (.ofNat k1)),.p (.int .i64 (.ofNat k2)),.p (.int .i64 (.ofNat k3)),.p (.int .i64 (.ofNat k4)),.p (.int .i64 (.ofNat k5)),.p (.int .i64 (.ofNat k6)),.p (.int .i64 (.ofNat k7)),.p (.int .i64 (.ofNat k8))]],false,63⟩])⟩=some (.exit 2,⟨T',⟨false,0,4,[[.p lo,.p by_,.p (.int .i64 (.ofNat lim_)),.p fst]],false,94⟩::⟨false,0,12,[[.p c1,.p c2,.p c3,.p c4,.p (.int .i64 (.ofNat m1)),.p (.int .i64 (.ofNat m2)),.p (.int .i64 (.ofNat m3)),.p (.int .i64 (.ofNat m4)),.p (.int .i64 (.ofNat m5)),.p (.int .i64 (.ofNat m6)),.p (.int .i64 (.ofNat m7)),.p (.int .i64 (.ofNat m8))]],false,63⟩::B2::B3::(G++[⟨false,0,12,[[.p x,.p y,.p z,.p u,.p (.int .i64 (.ofNat (k1+m1))),.p (.int .i64 (.ofNat (k2+m2))),.p (.int .i64 (.ofNat (k3+m3))),.p (.int .i64 (.ofNat (k4+m4))),.p (.int .i64 (.ofNat (k5+m5))),.p (.int .i64 (.ofNat (k6+m6))),.p (.int .i64 (.ofNat (k7+m7))),.p (.int .i64 (.ofNat (k8+m8)))]],false,63⟩])⟩)/\Xf T' 1=some (.one p)/\Xf T' 4=some (.one (.ptr 0 0 0 0))/\Xf T' 6=some (.one (.ptr 1 0 0 0))/\Xf T' 10=some (.one s10)/\Xf T' 11=some (.one s11)/\Xf T' 13=some (.one (.ptr (G.length+1+1+1+1) 0 0 0))/\Xf T' 24=some (.one s24)/\Xf T' 25=some (.one s25)/\Xf T' 26=some (.one s26):=by
 rw[exps_0 hmd hlim h0]
 rw[exps_1 hmd hlim h1]
 rw[exps_2 hmd hlim h2]
 rw[exps_3 hmd hlim h3]
 rw[exps_4 hmd hlim h4]
 rw[exps_5 hmd hlim h5]
 rw[exps_6 hmd hlim h6]
 rw[exps_7 hmd hlim h7]
 apply ex1
 ·rw[Xa]
  simp only[EVS,EVN,reduceIte,Nat.reduceEqDiff,Nat.reduceLT,x105_1]
  rfl
 ·refine⟨?_,?_,?_,?_,?_,?_,?_,?_,?_⟩<;>simp only[EVS,reduceIte,Nat.reduceEqDiff]
abbrev dnB (lo by_:PL)(l:Nat)(fst:PL):Blk:=⟨false,0,4,[[.p lo,.p by_,.p (.int .i64 (.ofNat l)),.p fst]],false,94⟩
abbrev tmK (x y z u:PL)(m:List Nat):Blk:=⟨false,0,12,[.p x::.p y::.p z::.p u::moD m],false,63⟩
theorem XK {α:Type}(G l:List α)(b:α):(G++b::l)[G.length]? =some b:=by
 rw[ZB (Zg _),YN];rfl
theorem XS {α:Type}(G l:List α)(b c:α):(G++b::l).set G.length c=G++c::l:=by
 rw[List.set_append_right _ _ (Zg _),YN];rfl
inductive WhileR (E:Oracle)(lo:PL)(mm:List Nat):List (List PL)->List (List PL)->List (List PL)->Prop
 |stopN:WhileR E lo mm [] [] []
 |stop {x y z u:PL} {m:List Nat} {ps:List (List PL)} {r:Int} (hm:m.length=8) (h1:E.pure 60 [.one lo,.agg (mo m),.agg (mo mm)]=some (.one (.int .i64 r))) (h0:ltF (.ofNat 0) r=false):WhileR E lo mm ((x::y::z::u::mo m)::ps) [] ((x::y::z::u::mo m)::ps)
 |go {x y z u:PL} {m:List Nat} {ps os rs:List (List PL)} (hm:m.length=8) (h1:E.pure 60 [.one lo,.agg (mo m),.agg (mo mm)]=some (.one (.int .i64 (.ofNat 1)))) (h:WhileR E lo mm ps os rs):WhileR E lo mm ((x::y::z::u::mo m)::ps) ((x::y::z::u::mo m)::os) rs
theorem while_round {E:Oracle}{K k v n:Nat}(hmd:E.mode=md){lo by_ fst x y z u x2 y2 z2 u2:PL}{m mm:List Nat}{s24 s25 s26:DL}{l:Nat}{b1 b2:Blk}{ps o:List (List PL)}(hm:m.length=8)(hmm:mm.length=8)(h12:∀d∈ps,d.length=12)(ho:o.length<1000000)(hps:ps.length<1000000)
  (h1:E.pure 60 [.one lo,.agg (mo m),.agg (mo mm)]=some (.one (.int .i64 (.ofNat 1)))) (hn:n=o.length) (G G2:List Blk):
  ∃G2',Xa E K 0 [1,4,6,10,11,13,24,25,26] x105_2 (k+1) ⟨[(1,.one (.p (.lst ((x::y::z::u::mo m)::ps)))),(4,.one (.ptr 0 0 0 0)),(6,.one (.ptr 1 0 0 0)),(10,.one (.ptr 2 0 0 0)),(11,.one (.own 3 v 0 n)),(13,.one (.ptr (G.length+1+1+1+1) 0 0 0)),(24,.one s24),(25,.one s25),(26,.one s26)],dnB lo by_ l fst::b1::b2::trB v o::(G++tmK x2 y2 z2 u2 mm::G2)⟩=
   Xa E K 0 [1,4,6,10,11,13,24,25,26] x105_2 k ⟨[(1,.one (.p (.lst ps))),(4,.one (.ptr 0 0 0 0)),(6,.one (.ptr 1 0 0 0)),(10,.one (.ptr 2 0 0 0)),(11,.one (.own 3 (v+1) 0 (n+1))),(13,.one (.ptr (G.length+1+1+1+1) 0 0 0)),(24,.one s24),(25,.one s25),(26,.one s26)],dnB lo by_ l fst::b1::b2::trB (v+1) (o++[x::y::z::u::mo m])::(G++tmK x2 y2 z2 u2 mm::G2')⟩:=by
 subst hn
 have tm:(moD m).take 8=moD m:=Ze (by rw[Xb];omega)
 have dm:(moD m).drop 8=[]:=Zp (by rw[Xb];omega)
 have tk:(moD mm).take 8=moD mm:=Ze (by rw[Xb];omega)
 have dk:(moD mm).drop 8=[]:=Zp (by rw[Xb];omega)
 have sl:Sl (.lst ((x::y::z::u::mo m)::ps)) ((x::y::z::u::mo m)::ps):=.lst
 have hlen:=sl.len
 have ip:=fun(hh:HF) (kd:IntKind)=>sl.idx (h:=hh) (k:=kd) (i:=0) (sz:=12) rfl (by simp[Xt,hm])
 have s1:=W6 (c:=x::y::z::u::mo m) (es:=ps) h12
 have l1:0<ps.length+1:=by omega
 have f2:(o.length+1)*128<=lim:=by unfold lim;omega
 have f3:o.length+1<=9223372036854775807:=by omega
 have w1:=Xx m
 have w2:=Xx mm
 apply Exists.intro
 rw[Xa]
 simp(decide:=true)only[EVS,EVN,EVF,EVH,reduceIte,Nat.reduceEqDiff,Nat.reduceLeDiff,Nat.reduceAdd,x105_2,hlen,l1,ip,s1,XT,Xb,Xt,hm,hmm,tm,tk,XN,XP,hmd,MDS,h1,f2,f3,Vn,XK,Zq,Zm,XR,WK]
 rfl
def SlotsS (T:List (Nat×DV))(lp:PL)(v n J:Nat)(s24 s25 s26:DL):Prop:=Xf T 1=some (.one (.p lp))/\Xf T 4=some (.one (.ptr 0 0 0 0))/\Xf T 6=some (.one (.ptr 1 0 0 0))/\Xf T 10=some (.one (.ptr 2 0 0 0))/\Xf T 11=some (.one (.own 3 v 0 n))/\Xf T 13=some (.one (.ptr J 0 0 0))/\Xf T 24=some (.one s24)/\Xf T 25=some (.one s25)/\Xf T 26=some (.one s26)
theorem while_go {E:Oracle}{K:Nat}(hmd:E.mode=md){lo by_ fst x2 y2 z2 u2:PL}{mm:List Nat}{s24 s25 s26:DL}{l:Nat}{b1 b2:Blk}(hmm:mm.length=8)(G:List Blk){es os rs:List (List PL)}(h:WhileR E lo mm es os rs):(∀d∈es,d.length=12)->∀(lp:PL) (k v:Nat) (o:List (List PL)) (G2:List Blk),Sl lp es->o.length+es.length<1000000->es.length<k->
  ∃T' G2' v' lp',Xa E K 0 [1,4,6,10,11,13,24,25,26] x105_2 k ⟨[(1,.one (.p lp)),(4,.one (.ptr 0 0 0 0)),(6,.one (.ptr 1 0 0 0)),(10,.one (.ptr 2 0 0 0)),(11,.one (.own 3 v 0 o.length)),(13,.one (.ptr (G.length+1+1+1+1) 0 0 0)),(24,.one s24),(25,.one s25),(26,.one s26)],dnB lo by_ l fst::b1::b2::trB v o::(G++tmK x2 y2 z2 u2 mm::G2)⟩=
   some (.exit 4,⟨T',dnB lo by_ l fst::b1::b2::trB v' (o++os)::(G++tmK x2 y2 z2 u2 mm::G2')⟩)/\SlotsS T' lp' v' (o++os).length (G.length+1+1+1+1) s24 s25 s26/\Sl lp' rs:=by
 induction h with
 |stopN=>
  intro h12 lp k v o G2 sl ho hk
  obtain⟨k,rfl⟩:∃k',k=k'+1:=⟨k-1,by omega⟩
  have hlen:=sl.len
  have :∃T',Xa E K 0 [1,4,6,10,11,13,24,25,26] x105_2 (k+1) ⟨[(1,.one (.p lp)),(4,.one (.ptr 0 0 0 0)),(6,.one (.ptr 1 0 0 0)),(10,.one (.ptr 2 0 0 0)),(11,.one (.own 3 v 0 o.length)),(13,.one (.ptr (G.length+1+1+1+1) 0 0 0)),(24,.one s24),(25,.one s25),(26,.one s26)],dnB lo by_ l fst::b1::b2::trB v o::(G++tmK x2 y2 z2 u2 mm::G2)⟩=
    some (.exit 4,⟨T',dnB lo by_ l fst::b1::b2::trB v o::(G++tmK x2 y2 z2 u2 mm::G2)⟩)/\SlotsS T' lp v o.length (G.length+1+1+1+1) s24 s25 s26:=by
   apply ex1
   ·rw[Xa]
    simp(decide:=true)only[EVS,EVN,EVF,reduceIte,Nat.reduceEqDiff,x105_2,hlen,hmd,MDS]
    rfl
   ·refine⟨?_,?_,?_,?_,?_,?_,?_,?_,?_⟩<;>simp only[EVS,reduceIte,Nat.reduceEqDiff]
  obtain⟨T',g1,g2⟩:=this
  exact⟨T',G2,v,lp,by rw[ZO];exact g1,by rw[ZO];exact g2,sl⟩
 |@stop x y z u m ps r hm h1 h0=>
  intro h12 lp k v o G2 sl ho hk
  obtain⟨k,rfl⟩:∃k',k=k'+1:=⟨k-1,by omega⟩
  obtain rfl:=Sl.WL sl
  have hlen:=sl.len
  have tm:(moD m).take 8=moD m:=Ze (by rw[Xb];omega)
  have dm:(moD m).drop 8=[]:=Zp (by rw[Xb];omega)
  have tk:(moD mm).take 8=moD mm:=Ze (by rw[Xb];omega)
  have dk:(moD mm).drop 8=[]:=Zp (by rw[Xb];omega)
  have ip:=fun(hh:HF) (kd:IntKind)=>sl.idx (h:=hh) (k:=kd) (i:=0) (sz:=12) rfl (by simp[Xt,hm])
  have l1:0<ps.length+1:=by omega
  have :∃T',Xa E K 0 [1,4,6,10,11,13,24,25,26] x105_2 (k+1) ⟨[(1,.one (.p (.lst ((x::y::z::u::mo m)::ps)))),(4,.one (.ptr 0 0 0 0)),(6,.one (.ptr 1 0 0 0)),(10,.one (.ptr 2 0 0 0)),(11,.one (.own 3 v 0 o.length)),(13,.one (.ptr (G.length+1+1+1+1) 0 0 0)),(24,.one s24),(25,.one s25),(26,.one s26)],dnB lo by_ l fst::b1::b2::trB v o::(G++tmK x2 y2 z2 u2 mm::G2)⟩=
    some (.exit 4,⟨T',dnB lo by_ l fst::b1::b2::trB v o::(G++tmK x2 y2 z2 u2 mm::G2)⟩)/\SlotsS T' (.lst ((x::y::z::u::mo m)::ps)) v o.length (G.length+1+1+1+1) s24 s25 s26:=by
   apply ex1
   ·rw[Xa]
    simp(decide:=true)only[EVS,EVN,EVF,EVH,reduceIte,Nat.reduceEqDiff,Nat.reduceLeDiff,Nat.reduceAdd,x105_2,hlen,l1,ip,XT,Xb,Xt,hm,hmm,tm,tk,XN,XP,hmd,MDS,h1,h0,XK]
    rfl
   ·refine⟨?_,?_,?_,?_,?_,?_,?_,?_,?_⟩<;>simp only[EVS,reduceIte,Nat.reduceEqDiff]
  obtain⟨T',g1,g2⟩:=this
  exact⟨T',G2,v,_,by rw[ZO];exact g1,by rw[ZO];exact g2,sl⟩
 |@go x y z u m ps os rs hm h1 h ih=>
  intro h12 lp k v o G2 sl ho hk
  obtain⟨k,rfl⟩:∃k',k=k'+1:=⟨k-1,by omega⟩
  simp only[Zi]at ho hk
  obtain rfl:=Sl.WL sl
  have h12':∀d∈ps,d.length=12:=fun d hd=>h12 d (Zc _ hd)
  obtain⟨G2',g1⟩:=while_round (K:=K) (k:=k) (v:=v) (by_:=by_) (fst:=fst) (x2:=x2) (y2:=y2) (z2:=z2) (u2:=u2) (s24:=s24) (s25:=s25) (s26:=s26) (l:=l) (b1:=b1) (b2:=b2) (o:=o) hmd hm hmm h12' (by omega) (by omega) h1 rfl G G2
  obtain⟨T',G3,v',lp',g2,g3,g4⟩:=ih h12' (.lst ps) k (v+1) (o++[x::y::z::u::mo m]) G2' .lst (by simp;omega) (by omega)
  rw[Zq,ZX]at g2 g3
  rw[show(o++[x::y::z::u::mo m]).length=o.length+1 by simp]at g2
  exact⟨T',G3,v',lp',g1.trans g2,g3,g4⟩
def IsDv (d:List PL)(t:Qm)(ts us:List Qm)(k:Nat):Prop:=∃n a e b p r,d=.bool n::a::.bool e::b::(mo t.2++[p,r,.int .i64 (.ofNat k)])/\IsQ [.bool n,a,.bool e,b] t.1/\XF t.2/\PQ p ts/\PQ r us
def Tp (m:List Nat)(t:Qm)(ts:List Qm):List Qm:=Wo t.1⁻¹ (Wv m t.2) ts
theorem eight {m:List Nat}(h:m.length=8):∃a b c d e f g i,m=[a,b,c,d,e,f,g,i]:=by
 match m,h with
 |[a,b,c,d,e,f,g,i],_=>exact⟨a,b,c,d,e,f,g,i,rfl⟩
theorem raised_ret {B:Base}(hB:Std B){d:List PL}{t:Qm}{ts us:List Qm}{k:Nat}(hd:IsDv d t ts us k){m:List Nat}(hm:XF m)(hdv:XU t.2 m=true)(ht:Sq t.1)(h0:t.1≠0)(hs:Sz ts)(ho:∀u∈ts,XF (Xh (Wv m t.2) u.2))(hl:ts.length<1000000):
  ∃outs,Ret B 101 [.agg d,.agg (mo m)] (.tup [.one (.lst outs),.one (.int .i64 (.ofNat 0))])/\XJ outs (Tp m t ts):=by
 obtain⟨n,a,e,b,p,r,rfl,q,hk,hp,hr⟩:=hd
 obtain⟨c,h1,hc⟩:=ratInv_q hB q ht h0
 have h2:=pquo_ret hB hm hk hdv
 have hz:t.1⁻¹≠0:=fun h=>h0 (by rw[<-Rat.inv_inv t.1,h];exact Rat.inv_zero)
 obtain⟨outs,h3,h4⟩:=ptimesq_ret hB hc ht.inv hz (subM_mok hm hk) hp hs ho hl
 obtain⟨n',a',e',b',rfl⟩:=hc.len
 have s8:=(subM_mok hm hk).1
 obtain⟨t1,t2⟩:=t
 obtain⟨k1,k2,k3,k4,k5,k6,k7,k8,rfl⟩:=eight hk.1
 obtain⟨m1,m2,m3,m4,m5,m6,m7,m8,rfl⟩:=eight hm.1
 obtain⟨s1,s2,s3,s4,s5,s6,s7,s8,hse⟩:=eight s8
 simp only[hse]at h2 h3
 refine⟨outs,Ret.of (hB.tab _ _ rfl) ((h1.evt.and (h2.evt.and (h3.evt.and hB.evt))).mono fun E K ⟨e1,e2,e3,hmd⟩=> ?_),h4⟩
 simp only[mo,Zx,ZZ,ZR,ZL]at e2 e3⊢
 simp only[EVS,EVN,EVF,reduceIte,Nat.reduceEqDiff,Nat.reduceLeDiff,Nat.reduceAdd,x101,hmd,MDS,e1,e2,e3]
def spairQ (t:Qm)(ts:List Qm)(s:Qm)(ss:List Qm):List Qm:=V3 (Tp (X2 t.2 s.2) t ts) (negQ (Tp (X2 t.2 s.2) s ss))
theorem IsDv.cells {d:List PL}{t:Qm}{ts us:List Qm}{k:Nat}(h:IsDv d t ts us k):∃a b c e m1 m2 m3 m4 m5 m6 m7 m8 p r,d=[a,b,c,e,.int .i64 (.ofNat m1),.int .i64 (.ofNat m2),.int .i64 (.ofNat m3),.int .i64 (.ofNat m4),.int .i64 (.ofNat m5),.int .i64 (.ofNat m6),.int .i64 (.ofNat m7),.int .i64 (.ofNat m8),p,r,.int .i64 (.ofNat k)]/\t.2=[m1,m2,m3,m4,m5,m6,m7,m8]:=by
 obtain⟨n,a,e,b,p,r,rfl,q,hk,hp,hr⟩:=h
 obtain⟨m1,m2,m3,m4,m5,m6,m7,m8,hm⟩:=eight hk.1
 exact⟨_,_,_,_,m1,m2,m3,m4,m5,m6,m7,m8,_,_,by rw[hm];rfl,hm⟩
theorem IsDv.mok {d:List PL}{t:Qm}{ts us:List Qm}{k:Nat}(h:IsDv d t ts us k):XF t.2:=by
 obtain⟨n,a,e,b,p,r,rfl,q,hk,hp,hr⟩:=h;exact hk
theorem pspairD_ret {B:Base}(hB:Std B){d1 d2:List PL}{t s:Qm}{ts us ss vs:List Qm}{k j:Nat}(h1:IsDv d1 t ts us k)(h2:IsDv d2 s ss vs j)(ht:Sq t.1)(t0:t.1≠0)(hs:Sq s.1)(s0:s.1≠0)(zt:Sz ts)(zs:Sz ss)
  (ot:∀u∈ts,XF (Xh (Wv (X2 t.2 s.2) t.2) u.2)) (os:∀u∈ss,XF (Xh (Wv (X2 t.2 s.2) s.2) u.2)) (rt:Sz (Tp (X2 t.2 s.2) t ts)) (rs:Sz (Tp (X2 t.2 s.2) s ss)) (lt:ts.length<400000) (ls:ss.length<400000):
  ∃outs,Ret B 66 [.agg d1,.agg d2] (.tup [.one (.lst outs),.one (.int .i64 (.ofNat 0))])/\XJ outs (spairQ t ts s ss):=by
 have m1:=h1.mok
 have m2:=h2.mok
 have hl:=plcm_ret hB m1 m2
 have lm:=lcmM_mok m1 m2
 have len12:t.2.length=s.2.length:=by rw[m1.1,m2.1]
 obtain⟨o1,r1,p1⟩:=raised_ret hB h1 lm (SJ _ _ len12) ht t0 zt ot (by omega)
 obtain⟨o2,r2,p2⟩:=raised_ret hB h2 lm (SI _ _ len12) hs s0 zs os (by omega)
 have q1:PQ (.lst o1) _:=⟨_,.lst,p1⟩
 have q2:PQ (.lst o2) _:=⟨_,.lst,p2⟩
 obtain⟨outs,r3,p3⟩:=psubq_ret hB q1 q2 rt rs (by simpa[Tp,Wo]using lt) (by simpa[Tp,Wo]using ls)
 obtain⟨a1,a2,a3,a4,x1,x2,x3,x4,x5,x6,x7,x8,a5,a6,rfl,e1⟩:=h1.cells
 obtain⟨b1,b2,b3,b4,y1,y2,y3,y4,y5,y6,y7,y8,b5,b6,rfl,e2⟩:=h2.cells
 obtain⟨l1,l2,l3,l4,l5,l6,l7,l8,el⟩:=eight lm.1
 simp only[e1,e2]at hl r1 r2 el
 simp only[el]at hl r1 r2
 refine⟨outs,Ret.of (hB.tab _ _ rfl) ((hl.evt.and (r1.evt.and (r2.evt.and (r3.evt.and hB.evt)))).mono fun E K ⟨g0,g1,g2,g3,hmd⟩=> ?_),p3⟩
 simp only[mo,Zx,ZZ]at g0 g1 g2⊢
 simp only[EVS,EVN,EVF,reduceIte,Nat.reduceEqDiff,Nat.reduceLeDiff,Nat.reduceAdd,x66,hmd,MDS,g0,g1,g2,g3]
end Go.Proofs.YtefpgecinlekpaaGreat
