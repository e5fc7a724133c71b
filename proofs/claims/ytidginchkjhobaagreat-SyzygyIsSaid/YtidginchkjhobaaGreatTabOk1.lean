/- The functions of the table are the program's (written by gentab2.py). -/
import Derived.Test.YtidginchkjhobaaGreatProg
import Derived.Test.YtidginchkjhobaaGreatTab
import Derived.Test.YtidginchkjhobaaGreatEvTop
namespace Go.Proofs.YtidginchkjhobaaGreat
open Go.Ev
theorem ok2 : FunOk Tryz.prog 2 x2 := ⟨⟨Tryz.f2, _, Tryz.func2, rfl, by kernel_rfl, by kernel_rfl, by kernel_rfl, by kernel_rfl⟩⟩
theorem ok3 : FunOk Tryz.prog 3 x3 := ⟨⟨Tryz.f3, _, Tryz.func3, rfl, by kernel_rfl, by kernel_rfl, by kernel_rfl, by kernel_rfl⟩⟩
theorem ok4 : FunOk Tryz.prog 4 x4 := ⟨⟨Tryz.f4, _, Tryz.func4, rfl, by kernel_rfl, by kernel_rfl, by kernel_rfl, by kernel_rfl⟩⟩
theorem ok5 : FunOk Tryz.prog 5 x5 := ⟨⟨Tryz.f5, _, Tryz.func5, rfl, by kernel_rfl, by kernel_rfl, by kernel_rfl, by kernel_rfl⟩⟩
theorem ok6 : FunOk Tryz.prog 6 x6 := ⟨⟨Tryz.f6, _, Tryz.func6, rfl, by kernel_rfl, by kernel_rfl, by kernel_rfl, by kernel_rfl⟩⟩
theorem ok7 : FunOk Tryz.prog 7 x7 := ⟨⟨Tryz.f7, _, Tryz.func7, rfl, by kernel_rfl, by kernel_rfl, by kernel_rfl, by kernel_rfl⟩⟩
theorem ok8 : FunOk Tryz.prog 8 x8 := ⟨⟨Tryz.f8, _, Tryz.func8, rfl, by kernel_rfl, by kernel_rfl, by kernel_rfl, by kernel_rfl⟩⟩
theorem ok9 : FunOk Tryz.prog 9 x9 := ⟨⟨Tryz.f9, _, Tryz.func9, rfl, by kernel_rfl, by kernel_rfl, by kernel_rfl, by kernel_rfl⟩⟩
theorem ok10 : FunOk Tryz.prog 10 x10 := ⟨⟨Tryz.f10, _, Tryz.func10, rfl, by kernel_rfl, by kernel_rfl, by kernel_rfl, by kernel_rfl⟩⟩
theorem ok11 : FunOk Tryz.prog 11 x11 := ⟨⟨Tryz.f11, _, Tryz.func11, rfl, by kernel_rfl, by kernel_rfl, by kernel_rfl, by kernel_rfl⟩⟩
theorem ok12 : FunOk Tryz.prog 12 x12 := ⟨⟨Tryz.f12, _, Tryz.func12, rfl, by kernel_rfl, by kernel_rfl, by kernel_rfl, by kernel_rfl⟩⟩
theorem ok13 : FunOk Tryz.prog 13 x13 := ⟨⟨Tryz.f13, _, Tryz.func13, rfl, by kernel_rfl, by kernel_rfl, by kernel_rfl, by kernel_rfl⟩⟩
theorem ok14 : FunOk Tryz.prog 14 x14 := ⟨⟨Tryz.f14, _, Tryz.func14, rfl, by kernel_rfl, by kernel_rfl, by kernel_rfl, by kernel_rfl⟩⟩
theorem ok15 : FunOk Tryz.prog 15 x15 := ⟨⟨Tryz.f15, _, Tryz.func15, rfl, by kernel_rfl, by kernel_rfl, by kernel_rfl, by kernel_rfl⟩⟩
theorem ok16 : FunOk Tryz.prog 16 x16 := ⟨⟨Tryz.f16, _, Tryz.func16, rfl, by kernel_rfl, by kernel_rfl, by kernel_rfl, by kernel_rfl⟩⟩
theorem ok17 : FunOk Tryz.prog 17 x17 := ⟨⟨Tryz.f17, _, Tryz.func17, rfl, by kernel_rfl, by kernel_rfl, by kernel_rfl, by kernel_rfl⟩⟩
theorem ok18 : FunOk Tryz.prog 18 x18 := ⟨⟨Tryz.f18, _, Tryz.func18, rfl, by kernel_rfl, by kernel_rfl, by kernel_rfl, by kernel_rfl⟩⟩
theorem ok19 : FunOk Tryz.prog 19 x19 := ⟨⟨Tryz.f19, _, Tryz.func19, rfl, by kernel_rfl, by kernel_rfl, by kernel_rfl, by kernel_rfl⟩⟩
theorem ok20 : FunOk Tryz.prog 20 x20 := ⟨⟨Tryz.f20, _, Tryz.func20, rfl, by kernel_rfl, by kernel_rfl, by kernel_rfl, by kernel_rfl⟩⟩
theorem ok21 : FunOk Tryz.prog 21 x21 := ⟨⟨Tryz.f21, _, Tryz.func21, rfl, by kernel_rfl, by kernel_rfl, by kernel_rfl, by kernel_rfl⟩⟩
theorem ok22 : FunOk Tryz.prog 22 x22 := ⟨⟨Tryz.f22, _, Tryz.func22, rfl, by kernel_rfl, by kernel_rfl, by kernel_rfl, by kernel_rfl⟩⟩
theorem ok23 : FunOk Tryz.prog 23 x23 := ⟨⟨Tryz.f23, _, Tryz.func23, rfl, by kernel_rfl, by kernel_rfl, by kernel_rfl, by kernel_rfl⟩⟩
theorem ok24 : FunOk Tryz.prog 24 x24 := ⟨⟨Tryz.f24, _, Tryz.func24, rfl, by kernel_rfl, by kernel_rfl, by kernel_rfl, by kernel_rfl⟩⟩
theorem ok25 : FunOk Tryz.prog 25 x25 := ⟨⟨Tryz.f25, _, Tryz.func25, rfl, by kernel_rfl, by kernel_rfl, by kernel_rfl, by kernel_rfl⟩⟩
theorem ok26 : FunOk Tryz.prog 26 x26 := ⟨⟨Tryz.f26, _, Tryz.func26, rfl, by kernel_rfl, by kernel_rfl, by kernel_rfl, by kernel_rfl⟩⟩
theorem ok27 : FunOk Tryz.prog 27 x27 := ⟨⟨Tryz.f27, _, Tryz.func27, rfl, by kernel_rfl, by kernel_rfl, by kernel_rfl, by kernel_rfl⟩⟩
theorem ok28 : FunOk Tryz.prog 28 x28 := ⟨⟨Tryz.f28, _, Tryz.func28, rfl, by kernel_rfl, by kernel_rfl, by kernel_rfl, by kernel_rfl⟩⟩
theorem ok29 : FunOk Tryz.prog 29 x29 := ⟨⟨Tryz.f29, _, Tryz.func29, rfl, by kernel_rfl, by kernel_rfl, by kernel_rfl, by kernel_rfl⟩⟩
theorem ok30 : FunOk Tryz.prog 30 x30 := ⟨⟨Tryz.f30, _, Tryz.func30, rfl, by kernel_rfl, by kernel_rfl, by kernel_rfl, by kernel_rfl⟩⟩
theorem ok31 : FunOk Tryz.prog 31 x31 := ⟨⟨Tryz.f31, _, Tryz.func31, rfl, by kernel_rfl, by kernel_rfl, by kernel_rfl, by kernel_rfl⟩⟩
theorem ok32 : FunOk Tryz.prog 32 x32 := ⟨⟨Tryz.f32, _, Tryz.func32, rfl, by kernel_rfl, by kernel_rfl, by kernel_rfl, by kernel_rfl⟩⟩
theorem ok33 : FunOk Tryz.prog 33 x33 := ⟨⟨Tryz.f33, _, Tryz.func33, rfl, by kernel_rfl, by kernel_rfl, by kernel_rfl, by kernel_rfl⟩⟩
theorem ok34 : FunOk Tryz.prog 34 x34 := ⟨⟨Tryz.f34, _, Tryz.func34, rfl, by kernel_rfl, by kernel_rfl, by kernel_rfl, by kernel_rfl⟩⟩
theorem ok35 : FunOk Tryz.prog 35 x35 := ⟨⟨Tryz.f35, _, Tryz.func35, rfl, by kernel_rfl, by kernel_rfl, by kernel_rfl, by kernel_rfl⟩⟩
theorem ok36 : FunOk Tryz.prog 36 x36 := ⟨⟨Tryz.f36, _, Tryz.func36, rfl, by kernel_rfl, by kernel_rfl, by kernel_rfl, by kernel_rfl⟩⟩
theorem ok37 : FunOk Tryz.prog 37 x37 := ⟨⟨Tryz.f37, _, Tryz.func37, rfl, by kernel_rfl, by kernel_rfl, by kernel_rfl, by kernel_rfl⟩⟩
theorem ok38 : FunOk Tryz.prog 38 x38 := ⟨⟨Tryz.f38, _, Tryz.func38, rfl, by kernel_rfl, by kernel_rfl, by kernel_rfl, by kernel_rfl⟩⟩
theorem ok39 : FunOk Tryz.prog 39 x39 := ⟨⟨Tryz.f39, _, Tryz.func39, rfl, by kernel_rfl, by kernel_rfl, by kernel_rfl, by kernel_rfl⟩⟩
theorem ok40 : FunOk Tryz.prog 40 x40 := ⟨⟨Tryz.f40, _, Tryz.func40, rfl, by kernel_rfl, by kernel_rfl, by kernel_rfl, by kernel_rfl⟩⟩
theorem ok41 : FunOk Tryz.prog 41 x41 := ⟨⟨Tryz.f41, _, Tryz.func41, rfl, by kernel_rfl, by kernel_rfl, by kernel_rfl, by kernel_rfl⟩⟩
theorem ok42 : FunOk Tryz.prog 42 x42 := ⟨⟨Tryz.f42, _, Tryz.func42, rfl, by kernel_rfl, by kernel_rfl, by kernel_rfl, by kernel_rfl⟩⟩
theorem ok43 : FunOk Tryz.prog 43 x43 := ⟨⟨Tryz.f43, _, Tryz.func43, rfl, by kernel_rfl, by kernel_rfl, by kernel_rfl, by kernel_rfl⟩⟩
theorem ok44 : FunOk Tryz.prog 44 x44 := ⟨⟨Tryz.f44, _, Tryz.func44, rfl, by kernel_rfl, by kernel_rfl, by kernel_rfl, by kernel_rfl⟩⟩
theorem ok45 : FunOk Tryz.prog 45 x45 := ⟨⟨Tryz.f45, _, Tryz.func45, rfl, by kernel_rfl, by kernel_rfl, by kernel_rfl, by kernel_rfl⟩⟩
theorem ok46 : FunOk Tryz.prog 46 x46 := ⟨⟨Tryz.f46, _, Tryz.func46, rfl, by kernel_rfl, by kernel_rfl, by kernel_rfl, by kernel_rfl⟩⟩
theorem ok47 : FunOk Tryz.prog 47 x47 := ⟨⟨Tryz.f47, _, Tryz.func47, rfl, by kernel_rfl, by kernel_rfl, by kernel_rfl, by kernel_rfl⟩⟩
theorem ok48 : FunOk Tryz.prog 48 x48 := ⟨⟨Tryz.f48, _, Tryz.func48, rfl, by kernel_rfl, by kernel_rfl, by kernel_rfl, by kernel_rfl⟩⟩
theorem ok49 : FunOk Tryz.prog 49 x49 := ⟨⟨Tryz.f49, _, Tryz.func49, rfl, by kernel_rfl, by kernel_rfl, by kernel_rfl, by kernel_rfl⟩⟩
theorem ok50 : FunOk Tryz.prog 50 x50 := ⟨⟨Tryz.f50, _, Tryz.func50, rfl, by kernel_rfl, by kernel_rfl, by kernel_rfl, by kernel_rfl⟩⟩
theorem ok51 : FunOk Tryz.prog 51 x51 := ⟨⟨Tryz.f51, _, Tryz.func51, rfl, by kernel_rfl, by kernel_rfl, by kernel_rfl, by kernel_rfl⟩⟩
theorem ok52 : FunOk Tryz.prog 52 x52 := ⟨⟨Tryz.f52, _, Tryz.func52, rfl, by kernel_rfl, by kernel_rfl, by kernel_rfl, by kernel_rfl⟩⟩
theorem ok53 : FunOk Tryz.prog 53 x53 := ⟨⟨Tryz.f53, _, Tryz.func53, rfl, by kernel_rfl, by kernel_rfl, by kernel_rfl, by kernel_rfl⟩⟩
theorem ok54 : FunOk Tryz.prog 54 x54 := ⟨⟨Tryz.f54, _, Tryz.func54, rfl, by kernel_rfl, by kernel_rfl, by kernel_rfl, by kernel_rfl⟩⟩
end Go.Proofs.YtidginchkjhobaaGreat
