/- The function that sorts the terms of a map: its pieces are the program's. -/
import Derived.Test.YtidginchkjhobaaGreatProg
import Derived.Test.YtidginchkjhobaaGreatEvRmapF
namespace Go.Proofs.YtidginchkjhobaaGreat
open Go.Ev

def zTerm : List PL := [(.bool false), .nilS, (.bool false), .nilS, (.int .i64 (.ofNat 0)), (.int .i64 (.ofNat 0)), (.int .i64 (.ofNat 0)), (.int .i64 (.ofNat 0)), (.int .i64 (.ofNat 0)), (.int .i64 (.ofNat 0)), (.int .i64 (.ofNat 0)), (.int .i64 (.ofNat 0))]

def rmS : RM where
  m := 0
  m2 := 9
  it := 10
  nx := 11
  ok := 12
  en := 13
  b := 0
  b2 := 1
  klen := 8
  ntmps := 28
  results := [(2, none)]
  pre0 := .region false [⟨(some 2), .move, [(.c (.one .nilS))], none, []⟩]
  pre1 := .region false [⟨(some 6), .move, [(.t 0)], none, []⟩, ⟨(some 7), .lenMap, [(.t 6)], none, []⟩, ⟨(some 8), (.makeSlice 75 zTerm 128), [(.c (.one (.int .i64 (.ofNat 0)))), (.t 7)], none, []⟩, ⟨(some 3), .move, [(.t 8)], none, []⟩]
  post := .seq (.region false [⟨(some 25), .move, [(.t 3)], none, []⟩, ⟨(some 26), (.call 165), [(.t 25), (.c (.one (.fn 166 [])))], none, []⟩]) (.seq (.region false [⟨(some 27), .move, [(.t 3)], none, []⟩, ⟨(some 2), .move, [(.t 27)], none, []⟩]) .ret)
  tail := [⟨(some 14), (.extract 0), [(.t 13)], none, [0]⟩, ⟨(some 15), (.extract 1), [(.t 13)], none, [0]⟩, ⟨(some 4), (.alloc 73 [(.int .i64 (.ofNat 0)), (.int .i64 (.ofNat 0)), (.int .i64 (.ofNat 0)), (.int .i64 (.ofNat 0)), (.int .i64 (.ofNat 0)), (.int .i64 (.ofNat 0)), (.int .i64 (.ofNat 0)), (.int .i64 (.ofNat 0))]), [], none, []⟩, ⟨(some 5), (.alloc 48 [(.bool false), .nilS, (.bool false), .nilS]), [], none, []⟩, ⟨none, (.store 8), [(.t 4), (.t 14)], none, [3, 1, 0, 1, 3, 4]⟩, ⟨none, (.store 4), [(.t 5), (.t 15)], none, [4, 2, 5, 0, 1, 2, 3, 4, 5]⟩]
  rb := .seq (.region false [⟨(some 16), (.load true 4), [(.t 5)], none, []⟩, ⟨(some 17), (.call 158), [(.t 16)], none, []⟩, ⟨(some 18), (.bin .neq), [(.t 17), (.c (.one (.int .i64 (.ofNat 0))))], none, []⟩]) (.cond (.t 18) (.region false [⟨(some 19), .move, [(.t 3)], none, []⟩, ⟨(some 20), (.load true 4), [(.t 5)], none, []⟩, ⟨(some 21), (.load true 8), [(.t 4)], none, []⟩, ⟨(some 22), (.build zTerm [(0, 4), (4, 8)]), [(.t 20), (.t 21)], none, []⟩, ⟨(some 23), (.buildSlice 75 zTerm 1 [0]), [(.t 22)], none, []⟩, ⟨(some 24), (.append 75 12 128), [(.t 19), (.t 23)], none, []⟩, ⟨(some 3), .move, [(.t 24)], none, []⟩]) .skip)

theorem rmS_ok : RMFun Tryz.prog 132 rmS := by
  refine ⟨⟨Tryz.f132, _, _, _, _, _, _, _, _, _, _, _, _, _, Tryz.func132, rfl, by kernel_rfl, by kernel_rfl, by kernel_rfl, by kernel_rfl, by kernel_rfl, by kernel_rfl, ?_⟩⟩
  refine ⟨⟨rfl, rfl, rfl⟩, ⟨_, rfl, rfl, rfl, 73, 48, by kernel_rfl⟩, ⟨rfl, rfl, rfl⟩, ⟨rfl, rfl, rfl⟩, ⟨rfl, rfl, rfl⟩, by kernel_rfl, by kernel_rfl, ?_, ?_⟩
  · exact ⟨by decide, by decide, by decide, by decide, by decide⟩
  · exact ⟨by decide, by decide, by decide⟩

end Go.Proofs.YtidginchkjhobaaGreat
