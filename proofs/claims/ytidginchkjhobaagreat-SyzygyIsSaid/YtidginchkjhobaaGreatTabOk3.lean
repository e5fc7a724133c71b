/- The functions of the table are the program's (written by gentab2.py). -/
import Derived.Test.YtidginchkjhobaaGreatProg
import Derived.Test.YtidginchkjhobaaGreatTab
import Derived.Test.YtidginchkjhobaaGreatEvTop
namespace Go.Proofs.YtidginchkjhobaaGreat
open Go.Ev
theorem ok108 : FunOk Tryz.prog 108 x108 := ⟨⟨Tryz.f108, _, Tryz.func108, rfl, by kernel_rfl, by kernel_rfl, by kernel_rfl, by kernel_rfl⟩⟩
theorem ok109 : FunOk Tryz.prog 109 x109 := ⟨⟨Tryz.f109, _, Tryz.func109, rfl, by kernel_rfl, by kernel_rfl, by kernel_rfl, by kernel_rfl⟩⟩
theorem ok110 : FunOk Tryz.prog 110 x110 := ⟨⟨Tryz.f110, _, Tryz.func110, rfl, by kernel_rfl, by kernel_rfl, by kernel_rfl, by kernel_rfl⟩⟩
theorem ok111 : FunOk Tryz.prog 111 x111 := ⟨⟨Tryz.f111, _, Tryz.func111, rfl, by kernel_rfl, by kernel_rfl, by kernel_rfl, by kernel_rfl⟩⟩
theorem ok112 : FunOk Tryz.prog 112 x112 := ⟨⟨Tryz.f112, _, Tryz.func112, rfl, by kernel_rfl, by kernel_rfl, by kernel_rfl, by kernel_rfl⟩⟩
theorem ok113 : FunOk Tryz.prog 113 x113 := ⟨⟨Tryz.f113, _, Tryz.func113, rfl, by kernel_rfl, by kernel_rfl, by kernel_rfl, by kernel_rfl⟩⟩
theorem ok114 : FunOk Tryz.prog 114 x114 := ⟨⟨Tryz.f114, _, Tryz.func114, rfl, by kernel_rfl, by kernel_rfl, by kernel_rfl, by kernel_rfl⟩⟩
theorem ok115 : FunOk Tryz.prog 115 x115 := ⟨⟨Tryz.f115, _, Tryz.func115, rfl, by kernel_rfl, by kernel_rfl, by kernel_rfl, by kernel_rfl⟩⟩
theorem ok116 : FunOk Tryz.prog 116 x116 := ⟨⟨Tryz.f116, _, Tryz.func116, rfl, by kernel_rfl, by kernel_rfl, by kernel_rfl, by kernel_rfl⟩⟩
theorem ok117 : FunOk Tryz.prog 117 x117 := ⟨⟨Tryz.f117, _, Tryz.func117, rfl, by kernel_rfl, by kernel_rfl, by kernel_rfl, by kernel_rfl⟩⟩
theorem ok118 : FunOk Tryz.prog 118 x118 := ⟨⟨Tryz.f118, _, Tryz.func118, rfl, by kernel_rfl, by kernel_rfl, by kernel_rfl, by kernel_rfl⟩⟩
theorem ok119 : FunOk Tryz.prog 119 x119 := ⟨⟨Tryz.f119, _, Tryz.func119, rfl, by kernel_rfl, by kernel_rfl, by kernel_rfl, by kernel_rfl⟩⟩
theorem ok120 : FunOk Tryz.prog 120 x120 := ⟨⟨Tryz.f120, _, Tryz.func120, rfl, by kernel_rfl, by kernel_rfl, by kernel_rfl, by kernel_rfl⟩⟩
theorem ok121 : FunOk Tryz.prog 121 x121 := ⟨⟨Tryz.f121, _, Tryz.func121, rfl, by kernel_rfl, by kernel_rfl, by kernel_rfl, by kernel_rfl⟩⟩
theorem ok122 : FunOk Tryz.prog 122 x122 := ⟨⟨Tryz.f122, _, Tryz.func122, rfl, by kernel_rfl, by kernel_rfl, by kernel_rfl, by kernel_rfl⟩⟩
theorem ok123 : FunOk Tryz.prog 123 x123 := ⟨⟨Tryz.f123, _, Tryz.func123, rfl, by kernel_rfl, by kernel_rfl, by kernel_rfl, by kernel_rfl⟩⟩
theorem ok124 : FunOk Tryz.prog 124 x124 := ⟨⟨Tryz.f124, _, Tryz.func124, rfl, by kernel_rfl, by kernel_rfl, by kernel_rfl, by kernel_rfl⟩⟩
theorem ok125 : FunOk Tryz.prog 125 x125 := ⟨⟨Tryz.f125, _, Tryz.func125, rfl, by kernel_rfl, by kernel_rfl, by kernel_rfl, by kernel_rfl⟩⟩
theorem ok126 : FunOk Tryz.prog 126 x126 := ⟨⟨Tryz.f126, _, Tryz.func126, rfl, by kernel_rfl, by kernel_rfl, by kernel_rfl, by kernel_rfl⟩⟩
theorem ok127 : FunOk Tryz.prog 127 x127 := ⟨⟨Tryz.f127, _, Tryz.func127, rfl, by kernel_rfl, by kernel_rfl, by kernel_rfl, by kernel_rfl⟩⟩
theorem ok128 : FunOk Tryz.prog 128 x128 := ⟨⟨Tryz.f128, _, Tryz.func128, rfl, by kernel_rfl, by kernel_rfl, by kernel_rfl, by kernel_rfl⟩⟩
theorem ok129 : FunOk Tryz.prog 129 x129 := ⟨⟨Tryz.f129, _, Tryz.func129, rfl, by kernel_rfl, by kernel_rfl, by kernel_rfl, by kernel_rfl⟩⟩
theorem ok130 : FunOk Tryz.prog 130 x130 := ⟨⟨Tryz.f130, _, Tryz.func130, rfl, by kernel_rfl, by kernel_rfl, by kernel_rfl, by kernel_rfl⟩⟩
theorem ok131 : FunOk Tryz.prog 131 x131 := ⟨⟨Tryz.f131, _, Tryz.func131, rfl, by kernel_rfl, by kernel_rfl, by kernel_rfl, by kernel_rfl⟩⟩
theorem ok133 : FunOk Tryz.prog 133 x133 := ⟨⟨Tryz.f133, _, Tryz.func133, rfl, by kernel_rfl, by kernel_rfl, by kernel_rfl, by kernel_rfl⟩⟩
theorem ok134 : FunOk Tryz.prog 134 x134 := ⟨⟨Tryz.f134, _, Tryz.func134, rfl, by kernel_rfl, by kernel_rfl, by kernel_rfl, by kernel_rfl⟩⟩
theorem ok135 : FunOk Tryz.prog 135 x135 := ⟨⟨Tryz.f135, _, Tryz.func135, rfl, by kernel_rfl, by kernel_rfl, by kernel_rfl, by kernel_rfl⟩⟩
theorem ok136 : FunOk Tryz.prog 136 x136 := ⟨⟨Tryz.f136, _, Tryz.func136, rfl, by kernel_rfl, by kernel_rfl, by kernel_rfl, by kernel_rfl⟩⟩
theorem ok137 : FunOk Tryz.prog 137 x137 := ⟨⟨Tryz.f137, _, Tryz.func137, rfl, by kernel_rfl, by kernel_rfl, by kernel_rfl, by kernel_rfl⟩⟩
theorem ok138 : FunOk Tryz.prog 138 x138 := ⟨⟨Tryz.f138, _, Tryz.func138, rfl, by kernel_rfl, by kernel_rfl, by kernel_rfl, by kernel_rfl⟩⟩
theorem ok139 : FunOk Tryz.prog 139 x139 := ⟨⟨Tryz.f139, _, Tryz.func139, rfl, by kernel_rfl, by kernel_rfl, by kernel_rfl, by kernel_rfl⟩⟩
theorem ok140 : FunOk Tryz.prog 140 x140 := ⟨⟨Tryz.f140, _, Tryz.func140, rfl, by kernel_rfl, by kernel_rfl, by kernel_rfl, by kernel_rfl⟩⟩
theorem ok141 : FunOk Tryz.prog 141 x141 := ⟨⟨Tryz.f141, _, Tryz.func141, rfl, by kernel_rfl, by kernel_rfl, by kernel_rfl, by kernel_rfl⟩⟩
theorem ok142 : FunOk Tryz.prog 142 x142 := ⟨⟨Tryz.f142, _, Tryz.func142, rfl, by kernel_rfl, by kernel_rfl, by kernel_rfl, by kernel_rfl⟩⟩
theorem ok143 : FunOk Tryz.prog 143 x143 := ⟨⟨Tryz.f143, _, Tryz.func143, rfl, by kernel_rfl, by kernel_rfl, by kernel_rfl, by kernel_rfl⟩⟩
theorem ok144 : FunOk Tryz.prog 144 x144 := ⟨⟨Tryz.f144, _, Tryz.func144, rfl, by kernel_rfl, by kernel_rfl, by kernel_rfl, by kernel_rfl⟩⟩
theorem ok145 : FunOk Tryz.prog 145 x145 := ⟨⟨Tryz.f145, _, Tryz.func145, rfl, by kernel_rfl, by kernel_rfl, by kernel_rfl, by kernel_rfl⟩⟩
theorem ok146 : FunOk Tryz.prog 146 x146 := ⟨⟨Tryz.f146, _, Tryz.func146, rfl, by kernel_rfl, by kernel_rfl, by kernel_rfl, by kernel_rfl⟩⟩
theorem ok147 : FunOk Tryz.prog 147 x147 := ⟨⟨Tryz.f147, _, Tryz.func147, rfl, by kernel_rfl, by kernel_rfl, by kernel_rfl, by kernel_rfl⟩⟩
theorem ok148 : FunOk Tryz.prog 148 x148 := ⟨⟨Tryz.f148, _, Tryz.func148, rfl, by kernel_rfl, by kernel_rfl, by kernel_rfl, by kernel_rfl⟩⟩
theorem ok149 : FunOk Tryz.prog 149 x149 := ⟨⟨Tryz.f149, _, Tryz.func149, rfl, by kernel_rfl, by kernel_rfl, by kernel_rfl, by kernel_rfl⟩⟩
theorem ok150 : FunOk Tryz.prog 150 x150 := ⟨⟨Tryz.f150, _, Tryz.func150, rfl, by kernel_rfl, by kernel_rfl, by kernel_rfl, by kernel_rfl⟩⟩
theorem ok151 : FunOk Tryz.prog 151 x151 := ⟨⟨Tryz.f151, _, Tryz.func151, rfl, by kernel_rfl, by kernel_rfl, by kernel_rfl, by kernel_rfl⟩⟩
theorem ok152 : FunOk Tryz.prog 152 x152 := ⟨⟨Tryz.f152, _, Tryz.func152, rfl, by kernel_rfl, by kernel_rfl, by kernel_rfl, by kernel_rfl⟩⟩
theorem ok153 : FunOk Tryz.prog 153 x153 := ⟨⟨Tryz.f153, _, Tryz.func153, rfl, by kernel_rfl, by kernel_rfl, by kernel_rfl, by kernel_rfl⟩⟩
theorem ok154 : FunOk Tryz.prog 154 x154 := ⟨⟨Tryz.f154, _, Tryz.func154, rfl, by kernel_rfl, by kernel_rfl, by kernel_rfl, by kernel_rfl⟩⟩
theorem ok155 : FunOk Tryz.prog 155 x155 := ⟨⟨Tryz.f155, _, Tryz.func155, rfl, by kernel_rfl, by kernel_rfl, by kernel_rfl, by kernel_rfl⟩⟩
theorem ok156 : FunOk Tryz.prog 156 x156 := ⟨⟨Tryz.f156, _, Tryz.func156, rfl, by kernel_rfl, by kernel_rfl, by kernel_rfl, by kernel_rfl⟩⟩
theorem ok157 : FunOk Tryz.prog 157 x157 := ⟨⟨Tryz.f157, _, Tryz.func157, rfl, by kernel_rfl, by kernel_rfl, by kernel_rfl, by kernel_rfl⟩⟩
theorem ok158 : FunOk Tryz.prog 158 x158 := ⟨⟨Tryz.f158, _, Tryz.func158, rfl, by kernel_rfl, by kernel_rfl, by kernel_rfl, by kernel_rfl⟩⟩
theorem ok159 : FunOk Tryz.prog 159 x159 := ⟨⟨Tryz.f159, _, Tryz.func159, rfl, by kernel_rfl, by kernel_rfl, by kernel_rfl, by kernel_rfl⟩⟩
theorem ok160 : FunOk Tryz.prog 160 x160 := ⟨⟨Tryz.f160, _, Tryz.func160, rfl, by kernel_rfl, by kernel_rfl, by kernel_rfl, by kernel_rfl⟩⟩
theorem ok161 : FunOk Tryz.prog 161 x161 := ⟨⟨Tryz.f161, _, Tryz.func161, rfl, by kernel_rfl, by kernel_rfl, by kernel_rfl, by kernel_rfl⟩⟩
end Go.Proofs.YtidginchkjhobaaGreat
