/- The functions of the table are the program's (written by gentab2.py). -/
import Derived.Test.YtidginchkjhobaaGreatProg
import Derived.Test.YtidginchkjhobaaGreatTab
import Derived.Test.YtidginchkjhobaaGreatEvTop
namespace Go.Proofs.YtidginchkjhobaaGreat
open Go.Ev
theorem ok55 : FunOk Tryz.prog 55 x55 := ⟨⟨Tryz.f55, _, Tryz.func55, rfl, by kernel_rfl, by kernel_rfl, by kernel_rfl, by kernel_rfl⟩⟩
theorem ok56 : FunOk Tryz.prog 56 x56 := ⟨⟨Tryz.f56, _, Tryz.func56, rfl, by kernel_rfl, by kernel_rfl, by kernel_rfl, by kernel_rfl⟩⟩
theorem ok57 : FunOk Tryz.prog 57 x57 := ⟨⟨Tryz.f57, _, Tryz.func57, rfl, by kernel_rfl, by kernel_rfl, by kernel_rfl, by kernel_rfl⟩⟩
theorem ok58 : FunOk Tryz.prog 58 x58 := ⟨⟨Tryz.f58, _, Tryz.func58, rfl, by kernel_rfl, by kernel_rfl, by kernel_rfl, by kernel_rfl⟩⟩
theorem ok59 : FunOk Tryz.prog 59 x59 := ⟨⟨Tryz.f59, _, Tryz.func59, rfl, by kernel_rfl, by kernel_rfl, by kernel_rfl, by kernel_rfl⟩⟩
theorem ok60 : FunOk Tryz.prog 60 x60 := ⟨⟨Tryz.f60, _, Tryz.func60, rfl, by kernel_rfl, by kernel_rfl, by kernel_rfl, by kernel_rfl⟩⟩
theorem ok61 : FunOk Tryz.prog 61 x61 := ⟨⟨Tryz.f61, _, Tryz.func61, rfl, by kernel_rfl, by kernel_rfl, by kernel_rfl, by kernel_rfl⟩⟩
theorem ok62 : FunOk Tryz.prog 62 x62 := ⟨⟨Tryz.f62, _, Tryz.func62, rfl, by kernel_rfl, by kernel_rfl, by kernel_rfl, by kernel_rfl⟩⟩
theorem ok63 : FunOk Tryz.prog 63 x63 := ⟨⟨Tryz.f63, _, Tryz.func63, rfl, by kernel_rfl, by kernel_rfl, by kernel_rfl, by kernel_rfl⟩⟩
theorem ok64 : FunOk Tryz.prog 64 x64 := ⟨⟨Tryz.f64, _, Tryz.func64, rfl, by kernel_rfl, by kernel_rfl, by kernel_rfl, by kernel_rfl⟩⟩
theorem ok65 : FunOk Tryz.prog 65 x65 := ⟨⟨Tryz.f65, _, Tryz.func65, rfl, by kernel_rfl, by kernel_rfl, by kernel_rfl, by kernel_rfl⟩⟩
theorem ok66 : FunOk Tryz.prog 66 x66 := ⟨⟨Tryz.f66, _, Tryz.func66, rfl, by kernel_rfl, by kernel_rfl, by kernel_rfl, by kernel_rfl⟩⟩
theorem ok67 : FunOk Tryz.prog 67 x67 := ⟨⟨Tryz.f67, _, Tryz.func67, rfl, by kernel_rfl, by kernel_rfl, by kernel_rfl, by kernel_rfl⟩⟩
theorem ok68 : FunOk Tryz.prog 68 x68 := ⟨⟨Tryz.f68, _, Tryz.func68, rfl, by kernel_rfl, by kernel_rfl, by kernel_rfl, by kernel_rfl⟩⟩
theorem ok69 : FunOk Tryz.prog 69 x69 := ⟨⟨Tryz.f69, _, Tryz.func69, rfl, by kernel_rfl, by kernel_rfl, by kernel_rfl, by kernel_rfl⟩⟩
theorem ok70 : FunOk Tryz.prog 70 x70 := ⟨⟨Tryz.f70, _, Tryz.func70, rfl, by kernel_rfl, by kernel_rfl, by kernel_rfl, by kernel_rfl⟩⟩
theorem ok71 : FunOk Tryz.prog 71 x71 := ⟨⟨Tryz.f71, _, Tryz.func71, rfl, by kernel_rfl, by kernel_rfl, by kernel_rfl, by kernel_rfl⟩⟩
theorem ok72 : FunOk Tryz.prog 72 x72 := ⟨⟨Tryz.f72, _, Tryz.func72, rfl, by kernel_rfl, by kernel_rfl, by kernel_rfl, by kernel_rfl⟩⟩
theorem ok73 : FunOk Tryz.prog 73 x73 := ⟨⟨Tryz.f73, _, Tryz.func73, rfl, by kernel_rfl, by kernel_rfl, by kernel_rfl, by kernel_rfl⟩⟩
theorem ok74 : FunOk Tryz.prog 74 x74 := ⟨⟨Tryz.f74, _, Tryz.func74, rfl, by kernel_rfl, by kernel_rfl, by kernel_rfl, by kernel_rfl⟩⟩
theorem ok75 : FunOk Tryz.prog 75 x75 := ⟨⟨Tryz.f75, _, Tryz.func75, rfl, by kernel_rfl, by kernel_rfl, by kernel_rfl, by kernel_rfl⟩⟩
theorem ok76 : FunOk Tryz.prog 76 x76 := ⟨⟨Tryz.f76, _, Tryz.func76, rfl, by kernel_rfl, by kernel_rfl, by kernel_rfl, by kernel_rfl⟩⟩
theorem ok77 : FunOk Tryz.prog 77 x77 := ⟨⟨Tryz.f77, _, Tryz.func77, rfl, by kernel_rfl, by kernel_rfl, by kernel_rfl, by kernel_rfl⟩⟩
theorem ok78 : FunOk Tryz.prog 78 x78 := ⟨⟨Tryz.f78, _, Tryz.func78, rfl, by kernel_rfl, by kernel_rfl, by kernel_rfl, by kernel_rfl⟩⟩
theorem ok79 : FunOk Tryz.prog 79 x79 := ⟨⟨Tryz.f79, _, Tryz.func79, rfl, by kernel_rfl, by kernel_rfl, by kernel_rfl, by kernel_rfl⟩⟩
theorem ok80 : FunOk Tryz.prog 80 x80 := ⟨⟨Tryz.f80, _, Tryz.func80, rfl, by kernel_rfl, by kernel_rfl, by kernel_rfl, by kernel_rfl⟩⟩
theorem ok81 : FunOk Tryz.prog 81 x81 := ⟨⟨Tryz.f81, _, Tryz.func81, rfl, by kernel_rfl, by kernel_rfl, by kernel_rfl, by kernel_rfl⟩⟩
theorem ok82 : FunOk Tryz.prog 82 x82 := ⟨⟨Tryz.f82, _, Tryz.func82, rfl, by kernel_rfl, by kernel_rfl, by kernel_rfl, by kernel_rfl⟩⟩
theorem ok83 : FunOk Tryz.prog 83 x83 := ⟨⟨Tryz.f83, _, Tryz.func83, rfl, by kernel_rfl, by kernel_rfl, by kernel_rfl, by kernel_rfl⟩⟩
theorem ok84 : FunOk Tryz.prog 84 x84 := ⟨⟨Tryz.f84, _, Tryz.func84, rfl, by kernel_rfl, by kernel_rfl, by kernel_rfl, by kernel_rfl⟩⟩
theorem ok85 : FunOk Tryz.prog 85 x85 := ⟨⟨Tryz.f85, _, Tryz.func85, rfl, by kernel_rfl, by kernel_rfl, by kernel_rfl, by kernel_rfl⟩⟩
theorem ok86 : FunOk Tryz.prog 86 x86 := ⟨⟨Tryz.f86, _, Tryz.func86, rfl, by kernel_rfl, by kernel_rfl, by kernel_rfl, by kernel_rfl⟩⟩
theorem ok87 : FunOk Tryz.prog 87 x87 := ⟨⟨Tryz.f87, _, Tryz.func87, rfl, by kernel_rfl, by kernel_rfl, by kernel_rfl, by kernel_rfl⟩⟩
theorem ok88 : FunOk Tryz.prog 88 x88 := ⟨⟨Tryz.f88, _, Tryz.func88, rfl, by kernel_rfl, by kernel_rfl, by kernel_rfl, by kernel_rfl⟩⟩
theorem ok89 : FunOk Tryz.prog 89 x89 := ⟨⟨Tryz.f89, _, Tryz.func89, rfl, by kernel_rfl, by kernel_rfl, by kernel_rfl, by kernel_rfl⟩⟩
theorem ok90 : FunOk Tryz.prog 90 x90 := ⟨⟨Tryz.f90, _, Tryz.func90, rfl, by kernel_rfl, by kernel_rfl, by kernel_rfl, by kernel_rfl⟩⟩
theorem ok91 : FunOk Tryz.prog 91 x91 := ⟨⟨Tryz.f91, _, Tryz.func91, rfl, by kernel_rfl, by kernel_rfl, by kernel_rfl, by kernel_rfl⟩⟩
theorem ok92 : FunOk Tryz.prog 92 x92 := ⟨⟨Tryz.f92, _, Tryz.func92, rfl, by kernel_rfl, by kernel_rfl, by kernel_rfl, by kernel_rfl⟩⟩
theorem ok93 : FunOk Tryz.prog 93 x93 := ⟨⟨Tryz.f93, _, Tryz.func93, rfl, by kernel_rfl, by kernel_rfl, by kernel_rfl, by kernel_rfl⟩⟩
theorem ok94 : FunOk Tryz.prog 94 x94 := ⟨⟨Tryz.f94, _, Tryz.func94, rfl, by kernel_rfl, by kernel_rfl, by kernel_rfl, by kernel_rfl⟩⟩
theorem ok95 : FunOk Tryz.prog 95 x95 := ⟨⟨Tryz.f95, _, Tryz.func95, rfl, by kernel_rfl, by kernel_rfl, by kernel_rfl, by kernel_rfl⟩⟩
theorem ok96 : FunOk Tryz.prog 96 x96 := ⟨⟨Tryz.f96, _, Tryz.func96, rfl, by kernel_rfl, by kernel_rfl, by kernel_rfl, by kernel_rfl⟩⟩
theorem ok97 : FunOk Tryz.prog 97 x97 := ⟨⟨Tryz.f97, _, Tryz.func97, rfl, by kernel_rfl, by kernel_rfl, by kernel_rfl, by kernel_rfl⟩⟩
theorem ok98 : FunOk Tryz.prog 98 x98 := ⟨⟨Tryz.f98, _, Tryz.func98, rfl, by kernel_rfl, by kernel_rfl, by kernel_rfl, by kernel_rfl⟩⟩
theorem ok99 : FunOk Tryz.prog 99 x99 := ⟨⟨Tryz.f99, _, Tryz.func99, rfl, by kernel_rfl, by kernel_rfl, by kernel_rfl, by kernel_rfl⟩⟩
theorem ok100 : FunOk Tryz.prog 100 x100 := ⟨⟨Tryz.f100, _, Tryz.func100, rfl, by kernel_rfl, by kernel_rfl, by kernel_rfl, by kernel_rfl⟩⟩
theorem ok101 : FunOk Tryz.prog 101 x101 := ⟨⟨Tryz.f101, _, Tryz.func101, rfl, by kernel_rfl, by kernel_rfl, by kernel_rfl, by kernel_rfl⟩⟩
theorem ok102 : FunOk Tryz.prog 102 x102 := ⟨⟨Tryz.f102, _, Tryz.func102, rfl, by kernel_rfl, by kernel_rfl, by kernel_rfl, by kernel_rfl⟩⟩
theorem ok103 : FunOk Tryz.prog 103 x103 := ⟨⟨Tryz.f103, _, Tryz.func103, rfl, by kernel_rfl, by kernel_rfl, by kernel_rfl, by kernel_rfl⟩⟩
theorem ok104 : FunOk Tryz.prog 104 x104 := ⟨⟨Tryz.f104, _, Tryz.func104, rfl, by kernel_rfl, by kernel_rfl, by kernel_rfl, by kernel_rfl⟩⟩
theorem ok105 : FunOk Tryz.prog 105 x105 := ⟨⟨Tryz.f105, _, Tryz.func105, rfl, by kernel_rfl, by kernel_rfl, by kernel_rfl, by kernel_rfl⟩⟩
theorem ok106 : FunOk Tryz.prog 106 x106 := ⟨⟨Tryz.f106, _, Tryz.func106, rfl, by kernel_rfl, by kernel_rfl, by kernel_rfl, by kernel_rfl⟩⟩
theorem ok107 : FunOk Tryz.prog 107 x107 := ⟨⟨Tryz.f107, _, Tryz.func107, rfl, by kernel_rfl, by kernel_rfl, by kernel_rfl, by kernel_rfl⟩⟩
end Go.Proofs.YtidginchkjhobaaGreat
