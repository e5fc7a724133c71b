/- The functions that the law reaches, in the form of the interpreter. -/
import Derived.Test.YtefpgecinlekpaaGreatProg
import Derived.Test.YtefpgecinlekpaaGreatEvFun
set_option maxRecDepth 100000
set_option maxHeartbeats 16000000
namespace Go.Proofs.YtefpgecinlekpaaGreat
open Go.Ev
noncomputable section
noncomputable def F (f:Func):W4:=(nU Tryz.prog f).getD ⟨0,[],.skip⟩
def L (x:W4)(s:List XE)(j:Nat):XE:=x.body.lo s 0 j
def G (x:W4)(s:List XE):W4:=⟨x.ntmps,x.results,x.body.nm s 0⟩
def c3:=Q (F Tryz.f3)
def x3_1:=Q (L c3 [] 0)
def x3_2:=(fun a=>Q (L c3 [a] 1)) x3_1
def x3:=(fun a b=>Q (G c3 [a,b])) x3_1 x3_2
def x7:=Q (F Tryz.f7)
def x8:=Q (F Tryz.f8)
def x9:=Q (F Tryz.f9)
def x10:=Q (F Tryz.f10)
def x11:=Q (F Tryz.f11)
def c12:=Q (F Tryz.f12)
def x12_1:=Q (L c12 [] 0)
def x12:=(fun a=>Q (G c12 [a])) x12_1
def c13:=Q (F Tryz.f13)
def x13_1:=Q (L c13 [] 0)
def x13:=(fun a=>Q (G c13 [a])) x13_1
def c14:=Q (F Tryz.f14)
def x14_1:=Q (L c14 [] 0)
def x14:=(fun a=>Q (G c14 [a])) x14_1
def c15:=Q (F Tryz.f15)
def x15_1:=Q (L c15 [] 0)
def x15:=(fun a=>Q (G c15 [a])) x15_1
def c16:=Q (F Tryz.f16)
def x16_1:=Q (L c16 [] 0)
def x16:=(fun a=>Q (G c16 [a])) x16_1
def c17:=Q (F Tryz.f17)
def x17_1:=Q (L c17 [] 0)
def x17:=(fun a=>Q (G c17 [a])) x17_1
def c18:=Q (F Tryz.f18)
def x18_1:=Q (L c18 [] 0)
def x18:=(fun a=>Q (G c18 [a])) x18_1
def c19:=Q (F Tryz.f19)
def x19_1:=Q (L c19 [] 0)
def x19:=(fun a=>Q (G c19 [a])) x19_1
def x20:=Q (F Tryz.f20)
def c21:=Q (F Tryz.f21)
def x21_1:=Q (L c21 [] 0)
def x21_2:=(fun a=>Q (L c21 [a] 1)) x21_1
def x21:=(fun a b=>Q (G c21 [a,b])) x21_1 x21_2
def c22:=Q (F Tryz.f22)
def x22_1:=Q (L c22 [] 0)
def x22:=(fun a=>Q (G c22 [a])) x22_1
def c23:=Q (F Tryz.f23)
def x23_1:=Q (L c23 [] 0)
def x23:=(fun a=>Q (G c23 [a])) x23_1
def x24:=Q (F Tryz.f24)
def x25:=Q (F Tryz.f25)
def c26:=Q (F Tryz.f26)
def x26_1:=Q (L c26 [] 0)
def x26_2:=(fun a=>Q (L c26 [a] 1)) x26_1
def x26:=(fun a b=>Q (G c26 [a,b])) x26_1 x26_2
def c28:=Q (F Tryz.f28)
def x28_1:=Q (L c28 [] 0)
def x28:=(fun a=>Q (G c28 [a])) x28_1
def c29:=Q (F Tryz.f29)
def x29_1:=Q (L c29 [] 0)
def x29:=(fun a=>Q (G c29 [a])) x29_1
def c30:=Q (F Tryz.f30)
def x30_1:=Q (L c30 [] 0)
def x30:=(fun a=>Q (G c30 [a])) x30_1
def c31:=Q (F Tryz.f31)
def x31_1:=Q (L c31 [] 0)
def x31:=(fun a=>Q (G c31 [a])) x31_1
def x36:=Q (F Tryz.f36)
def x37:=Q (F Tryz.f37)
def c38:=Q (F Tryz.f38)
def x38_1:=Q (L c38 [] 0)
def x38:=(fun a=>Q (G c38 [a])) x38_1
def x40:=Q (F Tryz.f40)
def x41:=Q (F Tryz.f41)
def x42:=Q (F Tryz.f42)
def x43:=Q (F Tryz.f43)
def x44:=Q (F Tryz.f44)
def c45:=Q (F Tryz.f45)
def x45_1:=Q (L c45 [] 0)
def x45:=(fun a=>Q (G c45 [a])) x45_1
def c46:=Q (F Tryz.f46)
def x46_1:=Q (L c46 [] 0)
def x46:=(fun a=>Q (G c46 [a])) x46_1
def x47:=Q (F Tryz.f47)
def c48:=Q (F Tryz.f48)
def x48_1:=Q (L c48 [] 0)
def x48:=(fun a=>Q (G c48 [a])) x48_1
def c49:=Q (F Tryz.f49)
def x49_1:=Q (L c49 [] 0)
def x49_2:=(fun a=>Q (L c49 [a] 1)) x49_1
def x49:=(fun a b=>Q (G c49 [a,b])) x49_1 x49_2
def c50:=Q (F Tryz.f50)
def x50_1:=Q (L c50 [] 0)
def x50:=(fun a=>Q (G c50 [a])) x50_1
def x51:=Q (F Tryz.f51)
def x52:=Q (F Tryz.f52)
def x53:=Q (F Tryz.f53)
def c54:=Q (F Tryz.f54)
def x54_1:=Q (L c54 [] 0)
def x54_2:=(fun a=>Q (L c54 [a] 1)) x54_1
def x54:=(fun a b=>Q (G c54 [a,b])) x54_1 x54_2
def x55:=Q (F Tryz.f55)
def c56:=Q (F Tryz.f56)
def x56_1:=Q (L c56 [] 0)
def x56:=(fun a=>Q (G c56 [a])) x56_1
def c57:=Q (F Tryz.f57)
def x57_1:=Q (L c57 [] 0)
def x57_2:=(fun a=>Q (L c57 [a] 1)) x57_1
def x57:=(fun a b=>Q (G c57 [a,b])) x57_1 x57_2
def c58:=Q (F Tryz.f58)
def x58_1:=Q (L c58 [] 0)
def x58:=(fun a=>Q (G c58 [a])) x58_1
def c59:=Q (F Tryz.f59)
def x59_1:=Q (L c59 [] 0)
def x59:=(fun a=>Q (G c59 [a])) x59_1
def c60:=Q (F Tryz.f60)
def x60_1:=Q (L c60 [] 0)
def x60_2:=(fun a=>Q (L c60 [a] 1)) x60_1
def x60:=(fun a b=>Q (G c60 [a,b])) x60_1 x60_2
def x61:=Q (F Tryz.f61)
def x62:=Q (F Tryz.f62)
def c63:=Q (F Tryz.f63)
def x63_1:=Q (L c63 [] 0)
def x63:=(fun a=>Q (G c63 [a])) x63_1
def x64:=Q (F Tryz.f64)
def c65:=Q (F Tryz.f65)
def x65_1:=Q (L c65 [] 0)
def x65:=(fun a=>Q (G c65 [a])) x65_1
def x66:=Q (F Tryz.f66)
def c67:=Q (F Tryz.f67)
def x67_1:=Q (L c67 [] 0)
def x67_2:=(fun a=>Q (L c67 [a] 1)) x67_1
def x67:=(fun a b=>Q (G c67 [a,b])) x67_1 x67_2
def x68:=Q (F Tryz.f68)
def c69:=Q (F Tryz.f69)
def x69_1:=Q (L c69 [] 0)
def x69:=(fun a=>Q (G c69 [a])) x69_1
def c70:=Q (F Tryz.f70)
def x70_1:=Q (L c70 [] 0)
def x70:=(fun a=>Q (G c70 [a])) x70_1
def x71:=Q (F Tryz.f71)
def x73:=Q (F Tryz.f73)
def c74:=Q (F Tryz.f74)
def x74_1:=Q (L c74 [] 0)
def x74:=(fun a=>Q (G c74 [a])) x74_1
def x75:=Q (F Tryz.f75)
def c76:=Q (F Tryz.f76)
def x76_1:=Q (L c76 [] 0)
def x76:=(fun a=>Q (G c76 [a])) x76_1
def c77:=Q (F Tryz.f77)
def x77_1:=Q (L c77 [] 0)
def x77:=(fun a=>Q (G c77 [a])) x77_1
def x78:=Q (F Tryz.f78)
def x79:=Q (F Tryz.f79)
def x80:=Q (F Tryz.f80)
def x81:=Q (F Tryz.f81)
def x82:=Q (F Tryz.f82)
def x83:=Q (F Tryz.f83)
def x84:=Q (F Tryz.f84)
def c85:=Q (F Tryz.f85)
def x85_1:=Q (L c85 [] 0)
def x85:=(fun a=>Q (G c85 [a])) x85_1
def x86:=Q (F Tryz.f86)
def c87:=Q (F Tryz.f87)
def x87_1:=Q (L c87 [] 0)
def x87:=(fun a=>Q (G c87 [a])) x87_1
def x88:=Q (F Tryz.f88)
def x89:=Q (F Tryz.f89)
def x90:=Q (F Tryz.f90)
def c92:=Q (F Tryz.f92)
def x92_1:=Q (L c92 [] 0)
def x92_2:=(fun a=>Q (L c92 [a] 1)) x92_1
def x92:=(fun a b=>Q (G c92 [a,b])) x92_1 x92_2
def x93:=Q (F Tryz.f93)
def c94:=Q (F Tryz.f94)
def x94_1:=Q (L c94 [] 0)
def x94:=(fun a=>Q (G c94 [a])) x94_1
def c95:=Q (F Tryz.f95)
def x95_1:=Q (L c95 [] 0)
def x95:=(fun a=>Q (G c95 [a])) x95_1
def c96:=Q (F Tryz.f96)
def x96_1:=Q (L c96 [] 0)
def x96:=(fun a=>Q (G c96 [a])) x96_1
def x97:=Q (F Tryz.f97)
def x98:=Q (F Tryz.f98)
def c99:=Q (F Tryz.f99)
def x99_1:=Q (L c99 [] 0)
def x99_2:=(fun a=>Q (L c99 [a] 1)) x99_1
def x99:=(fun a b=>Q (G c99 [a,b])) x99_1 x99_2
def c100:=Q (F Tryz.f100)
def x100_1:=Q (L c100 [] 0)
def x100:=(fun a=>Q (G c100 [a])) x100_1
def x101:=Q (F Tryz.f101)
def x102:=Q (F Tryz.f102)
def c103:=Q (F Tryz.f103)
def x103_1:=Q (L c103 [] 0)
def x103:=(fun a=>Q (G c103 [a])) x103_1
def x104:=Q (F Tryz.f104)
def c105:=Q (F Tryz.f105)
def x105_1:=Q (L c105 [] 0)
def x105_2:=(fun a=>Q (L c105 [a] 1)) x105_1
def x105_3:=(fun a b=>Q (L c105 [a,b] 2)) x105_1 x105_2
def x105:=(fun a b c=>Q (G c105 [a,b,c])) x105_1 x105_2 x105_3
def x106:=Q (F Tryz.f106)
def x107:=Q (F Tryz.f107)
def x108:=Q (F Tryz.f108)
def c109:=Q (F Tryz.f109)
def x109_1:=Q (L c109 [] 0)
def x109:=(fun a=>Q (G c109 [a])) x109_1
def c110:=Q (F Tryz.f110)
def x110_1:=Q (L c110 [] 0)
def x110:=(fun a=>Q (G c110 [a])) x110_1
def c111:=Q (F Tryz.f111)
def x111_1:=Q (L c111 [] 0)
def x111:=(fun a=>Q (G c111 [a])) x111_1
def c112:=Q (F Tryz.f112)
def x112_1:=Q (L c112 [] 0)
def x112:=(fun a=>Q (G c112 [a])) x112_1
def x114:=Q (F Tryz.f114)
def x116:=Q (F Tryz.f116)
def x117:=Q (F Tryz.f117)
def x118:=Q (F Tryz.f118)
def x119:=Q (F Tryz.f119)
def c120:=Q (F Tryz.f120)
def x120_1:=Q (L c120 [] 0)
def x120:=(fun a=>Q (G c120 [a])) x120_1
def x121:=Q (F Tryz.f121)
def x122:=Q (F Tryz.f122)
def x123:=Q (F Tryz.f123)
def x124:=Q (F Tryz.f124)
def x125:=Q (F Tryz.f125)
def x126:=Q (F Tryz.f126)
def x127:=Q (F Tryz.f127)
def c128:=Q (F Tryz.f128)
def x128_1:=Q (L c128 [] 0)
def x128:=(fun a=>Q (G c128 [a])) x128_1
def x129:=Q (F Tryz.f129)
def x130:=Q (F Tryz.f130)
def c131:=Q (F Tryz.f131)
def x131_1:=Q (L c131 [] 0)
def x131:=(fun a=>Q (G c131 [a])) x131_1
def x132:=Q (F Tryz.f132)
def x133:=Q (F Tryz.f133)
def x134:=Q (F Tryz.f134)
def x135:=Q (F Tryz.f135)
def x136:=Q (F Tryz.f136)
def c137:=Q (F Tryz.f137)
def x137_1:=Q (L c137 [] 0)
def x137:=(fun a=>Q (G c137 [a])) x137_1
def x138:=Q (F Tryz.f138)
def c139:=Q (F Tryz.f139)
def x139_1:=Q (L c139 [] 0)
def x139:=(fun a=>Q (G c139 [a])) x139_1
def x141:=Q (F Tryz.f141)
def c142:=Q (F Tryz.f142)
def x142_1:=Q (L c142 [] 0)
def x142:=(fun a=>Q (G c142 [a])) x142_1
def c143:=Q (F Tryz.f143)
def x143_1:=Q (L c143 [] 0)
def x143:=(fun a=>Q (G c143 [a])) x143_1
def x144:=Q (F Tryz.f144)
def x145:=Q (F Tryz.f145)
def c146:=Q (F Tryz.f146)
def x146_1:=Q (L c146 [] 0)
def x146:=(fun a=>Q (G c146 [a])) x146_1
def c147:=Q (F Tryz.f147)
def x147_1:=Q (L c147 [] 0)
def x147:=(fun a=>Q (G c147 [a])) x147_1
def c148:=Q (F Tryz.f148)
def x148_1:=Q (L c148 [] 0)
def x148_2:=(fun a=>Q (L c148 [a] 1)) x148_1
def x148:=(fun a b=>Q (G c148 [a,b])) x148_1 x148_2
def c149:=Q (F Tryz.f149)
def x149_1:=Q (L c149 [] 0)
def x149:=(fun a=>Q (G c149 [a])) x149_1
def x151:=Q (F Tryz.f151)
def x152:=Q (F Tryz.f152)
def c153:=Q (F Tryz.f153)
def x153_1:=Q (L c153 [] 0)
def x153_2:=(fun a=>Q (L c153 [a] 1)) x153_1
def x153:=(fun a b=>Q (G c153 [a,b])) x153_1 x153_2
def x154:=Q (F Tryz.f154)
def x155:=Q (F Tryz.f155)
def x156:=Q (F Tryz.f156)
def x157:=Q (F Tryz.f157)
def c158:=Q (F Tryz.f158)
def x158_1:=Q (L c158 [] 0)
def x158:=(fun a=>Q (G c158 [a])) x158_1
def x159:=Q (F Tryz.f159)
def x168:=Q (F Tryz.f168)
def x169:=Q (F Tryz.f169)
def c170:=Q (F Tryz.f170)
def x170_1:=Q (L c170 [] 0)
def x170:=(fun a=>Q (G c170 [a])) x170_1
def x171:=Q (F Tryz.f171)
def c172:=Q (F Tryz.f172)
def x172_1:=Q (L c172 [] 0)
def x172:=(fun a=>Q (G c172 [a])) x172_1
def x173:=Q (F Tryz.f173)
def x174:=Q (F Tryz.f174)
def x183:=Q (F Tryz.f183)
def c184:=Q (F Tryz.f184)
def x184_1:=Q (L c184 [] 0)
def x184:=(fun a=>Q (G c184 [a])) x184_1
def c185:=Q (F Tryz.f185)
def x185_1:=Q (L c185 [] 0)
def x185:=(fun a=>Q (G c185 [a])) x185_1
def x186:=Q (F Tryz.f186)
def c187:=Q (F Tryz.f187)
def x187_1:=Q (L c187 [] 0)
def x187:=(fun a=>Q (G c187 [a])) x187_1
def c188:=Q (F Tryz.f188)
def x188_1:=Q (L c188 [] 0)
def x188:=(fun a=>Q (G c188 [a])) x188_1
def x189:=Q (F Tryz.f189)
def c190:=Q (F Tryz.f190)
def x190_1:=Q (L c190 [] 0)
def x190:=(fun a=>Q (G c190 [a])) x190_1
def c191:=Q (F Tryz.f191)
def x191_1:=Q (L c191 [] 0)
def x191_2:=(fun a=>Q (L c191 [a] 1)) x191_1
def x191:=(fun a b=>Q (G c191 [a,b])) x191_1 x191_2
def c197:=Q (F Tryz.f197)
def x197_1:=Q (L c197 [] 0)
def x197:=(fun a=>Q (G c197 [a])) x197_1
def c198:=Q (F Tryz.f198)
def x198_1:=Q (L c198 [] 0)
def x198:=(fun a=>Q (G c198 [a])) x198_1
def c199:=Q (F Tryz.f199)
def x199_1:=Q (L c199 [] 0)
def x199:=(fun a=>Q (G c199 [a])) x199_1
def c200:=Q (F Tryz.f200)
def x200_1:=Q (L c200 [] 0)
def x200:=(fun a=>Q (G c200 [a])) x200_1
def c204:=Q (F Tryz.f204)
def x204_1:=Q (L c204 [] 0)
def x204:=(fun a=>Q (G c204 [a])) x204_1
def x205:=Q (F Tryz.f205)
def c206:=Q (F Tryz.f206)
def x206_1:=Q (L c206 [] 0)
def x206:=(fun a=>Q (G c206 [a])) x206_1
def c207:=Q (F Tryz.f207)
def x207_1:=Q (L c207 [] 0)
def x207_2:=(fun a=>Q (L c207 [a] 1)) x207_1
def x207_3:=(fun a b=>Q (L c207 [a,b] 2)) x207_1 x207_2
def x207:=(fun a b c=>Q (G c207 [a,b,c])) x207_1 x207_2 x207_3
def c208:=Q (F Tryz.f208)
def x208_1:=Q (L c208 [] 0)
def x208:=(fun a=>Q (G c208 [a])) x208_1
inductive TT (α:Type)|l (k:Nat)(x:α)|n (k:Nat)(a b:TT α)
def TT.gt {α}(f:Nat):TT α->Option α
 |.l k x=>bif Nat.beq f k then some x else none
 |.n k a b=>bif Nat.blt f k then a.gt f else b.gt f
def TT.m {α β}(g:Nat->α->β):TT α->TT β
 |.l k x=>.l k (g k x)
 |.n k a b=>.n k (a.m g) (b.m g)
def TL:TT W4:=(.n 97 (.n 53 (.n 26 (.n 16 (.n 11 (.n 8 (.n 7 (.l 3 x3) (.l 7 x7)) (.n 9 (.l 8 x8) (.n 10 (.l 9 x9) (.l 10 x10)))) (.n 13 (.n 12 (.l 11 x11) (.l 12 x12)) (.n 14 (.l 13 x13) (.n 15 (.l 14 x14) (.l 15 x15))))) (.n 21 (.n 18 (.n 17 (.l 16 x16) (.l 17 x17)) (.n 19 (.l 18 x18) (.n 20 (.l 19 x19) (.l 20 x20)))) (.n 23 (.n 22 (.l 21 x21) (.l 22 x22)) (.n 24 (.l 23 x23) (.n 25 (.l 24 x24) (.l 25 x25)))))) (.n 42 (.n 36 (.n 29 (.n 28 (.l 26 x26) (.l 28 x28)) (.n 30 (.l 29 x29) (.n 31 (.l 30 x30) (.l 31 x31)))) (.n 38 (.n 37 (.l 36 x36) (.l 37 x37)) (.n 40 (.l 38 x38) (.n 41 (.l 40 x40) (.l 41 x41))))) (.n 47 (.n 44 (.n 43 (.l 42 x42) (.l 43 x43)) (.n 45 (.l 44 x44) (.n 46 (.l 45 x45) (.l 46 x46)))) (.n 50 (.n 48 (.l 47 x47) (.n 49 (.l 48 x48) (.l 49 x49))) (.n 51 (.l 50 x50) (.n 52 (.l 51 x51) (.l 52 x52))))))) (.n 75 (.n 63 (.n 58 (.n 55 (.n 54 (.l 53 x53) (.l 54 x54)) (.n 56 (.l 55 x55) (.n 57 (.l 56 x56) (.l 57 x57)))) (.n 60 (.n 59 (.l 58 x58) (.l 59 x59)) (.n 61 (.l 60 x60) (.n 62 (.l 61 x61) (.l 62 x62))))) (.n 68 (.n 65 (.n 64 (.l 63 x63) (.l 64 x64)) (.n 66 (.l 65 x65) (.n 67 (.l 66 x66) (.l 67 x67)))) (.n 71 (.n 69 (.l 68 x68) (.n 70 (.l 69 x69) (.l 70 x70))) (.n 73 (.l 71 x71) (.n 74 (.l 73 x73) (.l 74 x74)))))) (.n 85 (.n 80 (.n 77 (.n 76 (.l 75 x75) (.l 76 x76)) (.n 78 (.l 77 x77) (.n 79 (.l 78 x78) (.l 79 x79)))) (.n 82 (.n 81 (.l 80 x80) (.l 81 x81)) (.n 83 (.l 82 x82) (.n 84 (.l 83 x83) (.l 84 x84))))) (.n 90 (.n 87 (.n 86 (.l 85 x85) (.l 86 x86)) (.n 88 (.l 87 x87) (.n 89 (.l 88 x88) (.l 89 x89)))) (.n 94 (.n 92 (.l 90 x90) (.n 93 (.l 92 x92) (.l 93 x93))) (.n 95 (.l 94 x94) (.n 96 (.l 95 x95) (.l 96 x96)))))))) (.n 142 (.n 120 (.n 107 (.n 102 (.n 99 (.n 98 (.l 97 x97) (.l 98 x98)) (.n 100 (.l 99 x99) (.n 101 (.l 100 x100) (.l 101 x101)))) (.n 104 (.n 103 (.l 102 x102) (.l 103 x103)) (.n 105 (.l 104 x104) (.n 106 (.l 105 x105) (.l 106 x106))))) (.n 112 (.n 109 (.n 108 (.l 107 x107) (.l 108 x108)) (.n 110 (.l 109 x109) (.n 111 (.l 110 x110) (.l 111 x111)))) (.n 117 (.n 114 (.l 112 x112) (.n 116 (.l 114 x114) (.l 116 x116))) (.n 118 (.l 117 x117) (.n 119 (.l 118 x118) (.l 119 x119)))))) (.n 130 (.n 125 (.n 122 (.n 121 (.l 120 x120) (.l 121 x121)) (.n 123 (.l 122 x122) (.n 124 (.l 123 x123) (.l 124 x124)))) (.n 127 (.n 126 (.l 125 x125) (.l 126 x126)) (.n 128 (.l 127 x127) (.n 129 (.l 128 x128) (.l 129 x129))))) (.n 135 (.n 132 (.n 131 (.l 130 x130) (.l 131 x131)) (.n 133 (.l 132 x132) (.n 134 (.l 133 x133) (.l 134 x134)))) (.n 138 (.n 136 (.l 135 x135) (.n 137 (.l 136 x136) (.l 137 x137))) (.n 139 (.l 138 x138) (.n 141 (.l 139 x139) (.l 141 x141))))))) (.n 172 (.n 153 (.n 147 (.n 144 (.n 143 (.l 142 x142) (.l 143 x143)) (.n 145 (.l 144 x144) (.n 146 (.l 145 x145) (.l 146 x146)))) (.n 149 (.n 148 (.l 147 x147) (.l 148 x148)) (.n 151 (.l 149 x149) (.n 152 (.l 151 x151) (.l 152 x152))))) (.n 158 (.n 155 (.n 154 (.l 153 x153) (.l 154 x154)) (.n 156 (.l 155 x155) (.n 157 (.l 156 x156) (.l 157 x157)))) (.n 169 (.n 159 (.l 158 x158) (.n 168 (.l 159 x159) (.l 168 x168))) (.n 170 (.l 169 x169) (.n 171 (.l 170 x170) (.l 171 x171)))))) (.n 190 (.n 185 (.n 174 (.n 173 (.l 172 x172) (.l 173 x173)) (.n 183 (.l 174 x174) (.n 184 (.l 183 x183) (.l 184 x184)))) (.n 187 (.n 186 (.l 185 x185) (.l 186 x186)) (.n 188 (.l 187 x187) (.n 189 (.l 188 x188) (.l 189 x189))))) (.n 200 (.n 197 (.n 191 (.l 190 x190) (.l 191 x191)) (.n 198 (.l 197 x197) (.n 199 (.l 198 x198) (.l 199 x199)))) (.n 206 (.n 204 (.l 200 x200) (.n 205 (.l 204 x204) (.l 205 x205))) (.n 207 (.l 206 x206) (.n 208 (.l 207 x207) (.l 208 x208)))))))))
def X (f:Nat):Option W4:=TL.gt f
end
end Go.Proofs.YtefpgecinlekpaaGreat
