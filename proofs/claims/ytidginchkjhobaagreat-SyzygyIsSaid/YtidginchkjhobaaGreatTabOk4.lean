/- The functions of the table are the program's (written by gentab2.py). -/
import Derived.Test.YtidginchkjhobaaGreatProg
import Derived.Test.YtidginchkjhobaaGreatTab
import Derived.Test.YtidginchkjhobaaGreatEvTop
namespace Go.Proofs.YtidginchkjhobaaGreat
open Go.Ev
theorem ok162 : FunOk Tryz.prog 162 x162 := ⟨⟨Tryz.f162, _, Tryz.func162, rfl, by kernel_rfl, by kernel_rfl, by kernel_rfl, by kernel_rfl⟩⟩
theorem ok163 : FunOk Tryz.prog 163 x163 := ⟨⟨Tryz.f163, _, Tryz.func163, rfl, by kernel_rfl, by kernel_rfl, by kernel_rfl, by kernel_rfl⟩⟩
theorem ok164 : FunOk Tryz.prog 164 x164 := ⟨⟨Tryz.f164, _, Tryz.func164, rfl, by kernel_rfl, by kernel_rfl, by kernel_rfl, by kernel_rfl⟩⟩
theorem ok165 : FunOk Tryz.prog 165 x165 := ⟨⟨Tryz.f165, _, Tryz.func165, rfl, by kernel_rfl, by kernel_rfl, by kernel_rfl, by kernel_rfl⟩⟩
theorem ok166 : FunOk Tryz.prog 166 x166 := ⟨⟨Tryz.f166, _, Tryz.func166, rfl, by kernel_rfl, by kernel_rfl, by kernel_rfl, by kernel_rfl⟩⟩
theorem ok167 : FunOk Tryz.prog 167 x167 := ⟨⟨Tryz.f167, _, Tryz.func167, rfl, by kernel_rfl, by kernel_rfl, by kernel_rfl, by kernel_rfl⟩⟩
theorem ok168 : FunOk Tryz.prog 168 x168 := ⟨⟨Tryz.f168, _, Tryz.func168, rfl, by kernel_rfl, by kernel_rfl, by kernel_rfl, by kernel_rfl⟩⟩
theorem ok169 : FunOk Tryz.prog 169 x169 := ⟨⟨Tryz.f169, _, Tryz.func169, rfl, by kernel_rfl, by kernel_rfl, by kernel_rfl, by kernel_rfl⟩⟩
theorem ok170 : FunOk Tryz.prog 170 x170 := ⟨⟨Tryz.f170, _, Tryz.func170, rfl, by kernel_rfl, by kernel_rfl, by kernel_rfl, by kernel_rfl⟩⟩
theorem ok171 : FunOk Tryz.prog 171 x171 := ⟨⟨Tryz.f171, _, Tryz.func171, rfl, by kernel_rfl, by kernel_rfl, by kernel_rfl, by kernel_rfl⟩⟩
theorem ok172 : FunOk Tryz.prog 172 x172 := ⟨⟨Tryz.f172, _, Tryz.func172, rfl, by kernel_rfl, by kernel_rfl, by kernel_rfl, by kernel_rfl⟩⟩
theorem ok173 : FunOk Tryz.prog 173 x173 := ⟨⟨Tryz.f173, _, Tryz.func173, rfl, by kernel_rfl, by kernel_rfl, by kernel_rfl, by kernel_rfl⟩⟩
theorem ok174 : FunOk Tryz.prog 174 x174 := ⟨⟨Tryz.f174, _, Tryz.func174, rfl, by kernel_rfl, by kernel_rfl, by kernel_rfl, by kernel_rfl⟩⟩
theorem ok175 : FunOk Tryz.prog 175 x175 := ⟨⟨Tryz.f175, _, Tryz.func175, rfl, by kernel_rfl, by kernel_rfl, by kernel_rfl, by kernel_rfl⟩⟩
theorem ok176 : FunOk Tryz.prog 176 x176 := ⟨⟨Tryz.f176, _, Tryz.func176, rfl, by kernel_rfl, by kernel_rfl, by kernel_rfl, by kernel_rfl⟩⟩
theorem ok177 : FunOk Tryz.prog 177 x177 := ⟨⟨Tryz.f177, _, Tryz.func177, rfl, by kernel_rfl, by kernel_rfl, by kernel_rfl, by kernel_rfl⟩⟩
theorem ok178 : FunOk Tryz.prog 178 x178 := ⟨⟨Tryz.f178, _, Tryz.func178, rfl, by kernel_rfl, by kernel_rfl, by kernel_rfl, by kernel_rfl⟩⟩
theorem ok179 : FunOk Tryz.prog 179 x179 := ⟨⟨Tryz.f179, _, Tryz.func179, rfl, by kernel_rfl, by kernel_rfl, by kernel_rfl, by kernel_rfl⟩⟩
theorem ok180 : FunOk Tryz.prog 180 x180 := ⟨⟨Tryz.f180, _, Tryz.func180, rfl, by kernel_rfl, by kernel_rfl, by kernel_rfl, by kernel_rfl⟩⟩
theorem ok181 : FunOk Tryz.prog 181 x181 := ⟨⟨Tryz.f181, _, Tryz.func181, rfl, by kernel_rfl, by kernel_rfl, by kernel_rfl, by kernel_rfl⟩⟩
theorem ok182 : FunOk Tryz.prog 182 x182 := ⟨⟨Tryz.f182, _, Tryz.func182, rfl, by kernel_rfl, by kernel_rfl, by kernel_rfl, by kernel_rfl⟩⟩
theorem ok183 : FunOk Tryz.prog 183 x183 := ⟨⟨Tryz.f183, _, Tryz.func183, rfl, by kernel_rfl, by kernel_rfl, by kernel_rfl, by kernel_rfl⟩⟩
theorem ok184 : FunOk Tryz.prog 184 x184 := ⟨⟨Tryz.f184, _, Tryz.func184, rfl, by kernel_rfl, by kernel_rfl, by kernel_rfl, by kernel_rfl⟩⟩
theorem ok185 : FunOk Tryz.prog 185 x185 := ⟨⟨Tryz.f185, _, Tryz.func185, rfl, by kernel_rfl, by kernel_rfl, by kernel_rfl, by kernel_rfl⟩⟩
theorem ok186 : FunOk Tryz.prog 186 x186 := ⟨⟨Tryz.f186, _, Tryz.func186, rfl, by kernel_rfl, by kernel_rfl, by kernel_rfl, by kernel_rfl⟩⟩
theorem ok187 : FunOk Tryz.prog 187 x187 := ⟨⟨Tryz.f187, _, Tryz.func187, rfl, by kernel_rfl, by kernel_rfl, by kernel_rfl, by kernel_rfl⟩⟩
theorem ok188 : FunOk Tryz.prog 188 x188 := ⟨⟨Tryz.f188, _, Tryz.func188, rfl, by kernel_rfl, by kernel_rfl, by kernel_rfl, by kernel_rfl⟩⟩
theorem ok189 : FunOk Tryz.prog 189 x189 := ⟨⟨Tryz.f189, _, Tryz.func189, rfl, by kernel_rfl, by kernel_rfl, by kernel_rfl, by kernel_rfl⟩⟩
theorem ok190 : FunOk Tryz.prog 190 x190 := ⟨⟨Tryz.f190, _, Tryz.func190, rfl, by kernel_rfl, by kernel_rfl, by kernel_rfl, by kernel_rfl⟩⟩
theorem ok191 : FunOk Tryz.prog 191 x191 := ⟨⟨Tryz.f191, _, Tryz.func191, rfl, by kernel_rfl, by kernel_rfl, by kernel_rfl, by kernel_rfl⟩⟩
theorem ok192 : FunOk Tryz.prog 192 x192 := ⟨⟨Tryz.f192, _, Tryz.func192, rfl, by kernel_rfl, by kernel_rfl, by kernel_rfl, by kernel_rfl⟩⟩
theorem ok193 : FunOk Tryz.prog 193 x193 := ⟨⟨Tryz.f193, _, Tryz.func193, rfl, by kernel_rfl, by kernel_rfl, by kernel_rfl, by kernel_rfl⟩⟩
theorem ok194 : FunOk Tryz.prog 194 x194 := ⟨⟨Tryz.f194, _, Tryz.func194, rfl, by kernel_rfl, by kernel_rfl, by kernel_rfl, by kernel_rfl⟩⟩
theorem ok195 : FunOk Tryz.prog 195 x195 := ⟨⟨Tryz.f195, _, Tryz.func195, rfl, by kernel_rfl, by kernel_rfl, by kernel_rfl, by kernel_rfl⟩⟩
theorem ok196 : FunOk Tryz.prog 196 x196 := ⟨⟨Tryz.f196, _, Tryz.func196, rfl, by kernel_rfl, by kernel_rfl, by kernel_rfl, by kernel_rfl⟩⟩
theorem ok197 : FunOk Tryz.prog 197 x197 := ⟨⟨Tryz.f197, _, Tryz.func197, rfl, by kernel_rfl, by kernel_rfl, by kernel_rfl, by kernel_rfl⟩⟩
theorem ok198 : FunOk Tryz.prog 198 x198 := ⟨⟨Tryz.f198, _, Tryz.func198, rfl, by kernel_rfl, by kernel_rfl, by kernel_rfl, by kernel_rfl⟩⟩
theorem ok199 : FunOk Tryz.prog 199 x199 := ⟨⟨Tryz.f199, _, Tryz.func199, rfl, by kernel_rfl, by kernel_rfl, by kernel_rfl, by kernel_rfl⟩⟩
theorem ok200 : FunOk Tryz.prog 200 x200 := ⟨⟨Tryz.f200, _, Tryz.func200, rfl, by kernel_rfl, by kernel_rfl, by kernel_rfl, by kernel_rfl⟩⟩
theorem ok201 : FunOk Tryz.prog 201 x201 := ⟨⟨Tryz.f201, _, Tryz.func201, rfl, by kernel_rfl, by kernel_rfl, by kernel_rfl, by kernel_rfl⟩⟩
theorem ok202 : FunOk Tryz.prog 202 x202 := ⟨⟨Tryz.f202, _, Tryz.func202, rfl, by kernel_rfl, by kernel_rfl, by kernel_rfl, by kernel_rfl⟩⟩
theorem ok203 : FunOk Tryz.prog 203 x203 := ⟨⟨Tryz.f203, _, Tryz.func203, rfl, by kernel_rfl, by kernel_rfl, by kernel_rfl, by kernel_rfl⟩⟩
theorem ok204 : FunOk Tryz.prog 204 x204 := ⟨⟨Tryz.f204, _, Tryz.func204, rfl, by kernel_rfl, by kernel_rfl, by kernel_rfl, by kernel_rfl⟩⟩
theorem ok205 : FunOk Tryz.prog 205 x205 := ⟨⟨Tryz.f205, _, Tryz.func205, rfl, by kernel_rfl, by kernel_rfl, by kernel_rfl, by kernel_rfl⟩⟩
theorem ok206 : FunOk Tryz.prog 206 x206 := ⟨⟨Tryz.f206, _, Tryz.func206, rfl, by kernel_rfl, by kernel_rfl, by kernel_rfl, by kernel_rfl⟩⟩
theorem ok207 : FunOk Tryz.prog 207 x207 := ⟨⟨Tryz.f207, _, Tryz.func207, rfl, by kernel_rfl, by kernel_rfl, by kernel_rfl, by kernel_rfl⟩⟩
theorem ok208 : FunOk Tryz.prog 208 x208 := ⟨⟨Tryz.f208, _, Tryz.func208, rfl, by kernel_rfl, by kernel_rfl, by kernel_rfl, by kernel_rfl⟩⟩
theorem ok209 : FunOk Tryz.prog 209 x209 := ⟨⟨Tryz.f209, _, Tryz.func209, rfl, by kernel_rfl, by kernel_rfl, by kernel_rfl, by kernel_rfl⟩⟩
theorem ok210 : FunOk Tryz.prog 210 x210 := ⟨⟨Tryz.f210, _, Tryz.func210, rfl, by kernel_rfl, by kernel_rfl, by kernel_rfl, by kernel_rfl⟩⟩
theorem ok211 : FunOk Tryz.prog 211 x211 := ⟨⟨Tryz.f211, _, Tryz.func211, rfl, by kernel_rfl, by kernel_rfl, by kernel_rfl, by kernel_rfl⟩⟩
theorem ok212 : FunOk Tryz.prog 212 x212 := ⟨⟨Tryz.f212, _, Tryz.func212, rfl, by kernel_rfl, by kernel_rfl, by kernel_rfl, by kernel_rfl⟩⟩
theorem ok213 : FunOk Tryz.prog 213 x213 := ⟨⟨Tryz.f213, _, Tryz.func213, rfl, by kernel_rfl, by kernel_rfl, by kernel_rfl, by kernel_rfl⟩⟩
end Go.Proofs.YtidginchkjhobaaGreat
