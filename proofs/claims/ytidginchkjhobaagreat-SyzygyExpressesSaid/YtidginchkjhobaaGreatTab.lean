/- The functions that the law reaches, in the form of the interpreter. -/
import Derived.Test.YtidginchkjhobaaGreatProg
import Derived.Test.YtidginchkjhobaaGreatEvFun
set_option maxRecDepth 100000
set_option maxHeartbeats 16000000
namespace Go.Proofs.YtidginchkjhobaaGreat
open Go.Ev
noncomputable section
noncomputable def F (f:Func):Vu:=(tO Tryz.prog f).getD ⟨0,[],.skip⟩
def L (x:Vu)(s:List XN)(j:Nat):XN:=x.body.lo s 0 j
def G (x:Vu)(s:List XN):Vu:=⟨x.ntmps,x.results,x.body.nm s 0⟩
def c6:=Q (F Tryz.f6)
def x6_1:=Q (L c6 [] 0)
def x6:=(fun a=>Q (G c6 [a])) x6_1
def x7:=Q (F Tryz.f7)
def x8:=Q (F Tryz.f8)
def x9:=Q (F Tryz.f9)
def c10:=Q (F Tryz.f10)
def x10_1:=Q (L c10 [] 0)
def x10:=(fun a=>Q (G c10 [a])) x10_1
def x11:=Q (F Tryz.f11)
def x12:=Q (F Tryz.f12)
def x13:=Q (F Tryz.f13)
def x15:=Q (F Tryz.f15)
def x16:=Q (F Tryz.f16)
def x17:=Q (F Tryz.f17)
def x18:=Q (F Tryz.f18)
def x19:=Q (F Tryz.f19)
def c21:=Q (F Tryz.f21)
def x21_1:=Q (L c21 [] 0)
def x21:=(fun a=>Q (G c21 [a])) x21_1
def c22:=Q (F Tryz.f22)
def x22_1:=Q (L c22 [] 0)
def x22_2:=(fun a=>Q (L c22 [a] 1)) x22_1
def x22:=(fun a b=>Q (G c22 [a,b])) x22_1 x22_2
def c25:=Q (F Tryz.f25)
def x25_1:=Q (L c25 [] 0)
def x25:=(fun a=>Q (G c25 [a])) x25_1
def c26:=Q (F Tryz.f26)
def x26_1:=Q (L c26 [] 0)
def x26:=(fun a=>Q (G c26 [a])) x26_1
def c27:=Q (F Tryz.f27)
def x27_1:=Q (L c27 [] 0)
def x27:=(fun a=>Q (G c27 [a])) x27_1
def c28:=Q (F Tryz.f28)
def x28_1:=Q (L c28 [] 0)
def x28:=(fun a=>Q (G c28 [a])) x28_1
def c29:=Q (F Tryz.f29)
def x29_1:=Q (L c29 [] 0)
def x29:=(fun a=>Q (G c29 [a])) x29_1
def x30:=Q (F Tryz.f30)
def x31:=Q (F Tryz.f31)
def x32:=Q (F Tryz.f32)
def c33:=Q (F Tryz.f33)
def x33_1:=Q (L c33 [] 0)
def x33:=(fun a=>Q (G c33 [a])) x33_1
def c34:=Q (F Tryz.f34)
def x34_1:=Q (L c34 [] 0)
def x34_2:=(fun a=>Q (L c34 [a] 1)) x34_1
def x34:=(fun a b=>Q (G c34 [a,b])) x34_1 x34_2
def c35:=Q (F Tryz.f35)
def x35_1:=Q (L c35 [] 0)
def x35:=(fun a=>Q (G c35 [a])) x35_1
def x36:=Q (F Tryz.f36)
def x37:=Q (F Tryz.f37)
def c38:=Q (F Tryz.f38)
def x38_1:=Q (L c38 [] 0)
def x38:=(fun a=>Q (G c38 [a])) x38_1
def c39:=Q (F Tryz.f39)
def x39_1:=Q (L c39 [] 0)
def x39:=(fun a=>Q (G c39 [a])) x39_1
def x41:=Q (F Tryz.f41)
def c42:=Q (F Tryz.f42)
def x42_1:=Q (L c42 [] 0)
def x42:=(fun a=>Q (G c42 [a])) x42_1
def c43:=Q (F Tryz.f43)
def x43_1:=Q (L c43 [] 0)
def x43:=(fun a=>Q (G c43 [a])) x43_1
def c44:=Q (F Tryz.f44)
def x44_1:=Q (L c44 [] 0)
def x44:=(fun a=>Q (G c44 [a])) x44_1
def c45:=Q (F Tryz.f45)
def x45_1:=Q (L c45 [] 0)
def x45_2:=(fun a=>Q (L c45 [a] 1)) x45_1
def x45_3:=(fun a b=>Q (L c45 [a,b] 2)) x45_1 x45_2
def x45:=(fun a b c=>Q (G c45 [a,b,c])) x45_1 x45_2 x45_3
def c46:=Q (F Tryz.f46)
def x46_1:=Q (L c46 [] 0)
def x46_2:=(fun a=>Q (L c46 [a] 1)) x46_1
def x46:=(fun a b=>Q (G c46 [a,b])) x46_1 x46_2
def c47:=Q (F Tryz.f47)
def x47_1:=Q (L c47 [] 0)
def x47:=(fun a=>Q (G c47 [a])) x47_1
def c48:=Q (F Tryz.f48)
def x48_1:=Q (L c48 [] 0)
def x48:=(fun a=>Q (G c48 [a])) x48_1
def x49:=Q (F Tryz.f49)
def c50:=Q (F Tryz.f50)
def x50_1:=Q (L c50 [] 0)
def x50_2:=(fun a=>Q (L c50 [a] 1)) x50_1
def x50:=(fun a b=>Q (G c50 [a,b])) x50_1 x50_2
def x51:=Q (F Tryz.f51)
def x52:=Q (F Tryz.f52)
def x53:=Q (F Tryz.f53)
def c54:=Q (F Tryz.f54)
def x54_1:=Q (L c54 [] 0)
def x54_2:=(fun a=>Q (L c54 [a] 1)) x54_1
def x54:=(fun a b=>Q (G c54 [a,b])) x54_1 x54_2
def c57:=Q (F Tryz.f57)
def x57_1:=Q (L c57 [] 0)
def x57:=(fun a=>Q (G c57 [a])) x57_1
def c60:=Q (F Tryz.f60)
def x60_1:=Q (L c60 [] 0)
def x60_2:=(fun a=>Q (L c60 [a] 1)) x60_1
def x60:=(fun a b=>Q (G c60 [a,b])) x60_1 x60_2
def c61:=Q (F Tryz.f61)
def x61_1:=Q (L c61 [] 0)
def x61:=(fun a=>Q (G c61 [a])) x61_1
def c62:=Q (F Tryz.f62)
def x62_1:=Q (L c62 [] 0)
def x62:=(fun a=>Q (G c62 [a])) x62_1
def c63:=Q (F Tryz.f63)
def x63_1:=Q (L c63 [] 0)
def x63:=(fun a=>Q (G c63 [a])) x63_1
def x64:=Q (F Tryz.f64)
def x65:=Q (F Tryz.f65)
def c66:=Q (F Tryz.f66)
def x66_1:=Q (L c66 [] 0)
def x66:=(fun a=>Q (G c66 [a])) x66_1
def x67:=Q (F Tryz.f67)
def x68:=Q (F Tryz.f68)
def c69:=Q (F Tryz.f69)
def x69_1:=Q (L c69 [] 0)
def x69_2:=(fun a=>Q (L c69 [a] 1)) x69_1
def x69:=(fun a b=>Q (G c69 [a,b])) x69_1 x69_2
def c70:=Q (F Tryz.f70)
def x70_1:=Q (L c70 [] 0)
def x70:=(fun a=>Q (G c70 [a])) x70_1
def x71:=Q (F Tryz.f71)
def x72:=Q (F Tryz.f72)
def x73:=Q (F Tryz.f73)
def x74:=Q (F Tryz.f74)
def x75:=Q (F Tryz.f75)
def x76:=Q (F Tryz.f76)
def x77:=Q (F Tryz.f77)
def c78:=Q (F Tryz.f78)
def x78_1:=Q (L c78 [] 0)
def x78_2:=(fun a=>Q (L c78 [a] 1)) x78_1
def x78:=(fun a b=>Q (G c78 [a,b])) x78_1 x78_2
def x80:=Q (F Tryz.f80)
def x81:=Q (F Tryz.f81)
def c82:=Q (F Tryz.f82)
def x82_1:=Q (L c82 [] 0)
def x82:=(fun a=>Q (G c82 [a])) x82_1
def c83:=Q (F Tryz.f83)
def x83_1:=Q (L c83 [] 0)
def x83:=(fun a=>Q (G c83 [a])) x83_1
def c84:=Q (F Tryz.f84)
def x84_1:=Q (L c84 [] 0)
def x84:=(fun a=>Q (G c84 [a])) x84_1
def c85:=Q (F Tryz.f85)
def x85_1:=Q (L c85 [] 0)
def x85:=(fun a=>Q (G c85 [a])) x85_1
def x86:=Q (F Tryz.f86)
def c87:=Q (F Tryz.f87)
def x87_1:=Q (L c87 [] 0)
def x87:=(fun a=>Q (G c87 [a])) x87_1
def x88:=Q (F Tryz.f88)
def x89:=Q (F Tryz.f89)
def c90:=Q (F Tryz.f90)
def x90_1:=Q (L c90 [] 0)
def x90:=(fun a=>Q (G c90 [a])) x90_1
def x91:=Q (F Tryz.f91)
def x92:=Q (F Tryz.f92)
def x93:=Q (F Tryz.f93)
def c94:=Q (F Tryz.f94)
def x94_1:=Q (L c94 [] 0)
def x94:=(fun a=>Q (G c94 [a])) x94_1
def c95:=Q (F Tryz.f95)
def x95_1:=Q (L c95 [] 0)
def x95:=(fun a=>Q (G c95 [a])) x95_1
def x96:=Q (F Tryz.f96)
def c97:=Q (F Tryz.f97)
def x97_1:=Q (L c97 [] 0)
def x97:=(fun a=>Q (G c97 [a])) x97_1
def x98:=Q (F Tryz.f98)
def c99:=Q (F Tryz.f99)
def x99_1:=Q (L c99 [] 0)
def x99_2:=(fun a=>Q (L c99 [a] 1)) x99_1
def x99:=(fun a b=>Q (G c99 [a,b])) x99_1 x99_2
def x100:=Q (F Tryz.f100)
def c101:=Q (F Tryz.f101)
def x101_1:=Q (L c101 [] 0)
def x101:=(fun a=>Q (G c101 [a])) x101_1
def x102:=Q (F Tryz.f102)
def x103:=Q (F Tryz.f103)
def x104:=Q (F Tryz.f104)
def c105:=Q (F Tryz.f105)
def x105_1:=Q (L c105 [] 0)
def x105:=(fun a=>Q (G c105 [a])) x105_1
def c107:=Q (F Tryz.f107)
def x107_1:=Q (L c107 [] 0)
def x107:=(fun a=>Q (G c107 [a])) x107_1
def c108:=Q (F Tryz.f108)
def x108_1:=Q (L c108 [] 0)
def x108:=(fun a=>Q (G c108 [a])) x108_1
def c109:=Q (F Tryz.f109)
def x109_1:=Q (L c109 [] 0)
def x109:=(fun a=>Q (G c109 [a])) x109_1
def x111:=Q (F Tryz.f111)
def x112:=Q (F Tryz.f112)
def x113:=Q (F Tryz.f113)
def c114:=Q (F Tryz.f114)
def x114_1:=Q (L c114 [] 0)
def x114_2:=(fun a=>Q (L c114 [a] 1)) x114_1
def x114:=(fun a b=>Q (G c114 [a,b])) x114_1 x114_2
def c115:=Q (F Tryz.f115)
def x115_1:=Q (L c115 [] 0)
def x115:=(fun a=>Q (G c115 [a])) x115_1
def x116:=Q (F Tryz.f116)
def c117:=Q (F Tryz.f117)
def x117_1:=Q (L c117 [] 0)
def x117:=(fun a=>Q (G c117 [a])) x117_1
def c118:=Q (F Tryz.f118)
def x118_1:=Q (L c118 [] 0)
def x118_2:=(fun a=>Q (L c118 [a] 1)) x118_1
def x118:=(fun a b=>Q (G c118 [a,b])) x118_1 x118_2
def x119:=Q (F Tryz.f119)
def x120:=Q (F Tryz.f120)
def x121:=Q (F Tryz.f121)
def c122:=Q (F Tryz.f122)
def x122_1:=Q (L c122 [] 0)
def x122:=(fun a=>Q (G c122 [a])) x122_1
def x123:=Q (F Tryz.f123)
def x124:=Q (F Tryz.f124)
def x125:=Q (F Tryz.f125)
def c126:=Q (F Tryz.f126)
def x126_1:=Q (L c126 [] 0)
def x126:=(fun a=>Q (G c126 [a])) x126_1
def c127:=Q (F Tryz.f127)
def x127_1:=Q (L c127 [] 0)
def x127:=(fun a=>Q (G c127 [a])) x127_1
def c128:=Q (F Tryz.f128)
def x128_1:=Q (L c128 [] 0)
def x128:=(fun a=>Q (G c128 [a])) x128_1
def c129:=Q (F Tryz.f129)
def x129_1:=Q (L c129 [] 0)
def x129_2:=(fun a=>Q (L c129 [a] 1)) x129_1
def x129:=(fun a b=>Q (G c129 [a,b])) x129_1 x129_2
def c130:=Q (F Tryz.f130)
def x130_1:=Q (L c130 [] 0)
def x130:=(fun a=>Q (G c130 [a])) x130_1
def x131:=Q (F Tryz.f131)
def c133:=Q (F Tryz.f133)
def x133_1:=Q (L c133 [] 0)
def x133:=(fun a=>Q (G c133 [a])) x133_1
def c134:=Q (F Tryz.f134)
def x134_1:=Q (L c134 [] 0)
def x134:=(fun a=>Q (G c134 [a])) x134_1
def c135:=Q (F Tryz.f135)
def x135_1:=Q (L c135 [] 0)
def x135:=(fun a=>Q (G c135 [a])) x135_1
def c136:=Q (F Tryz.f136)
def x136_1:=Q (L c136 [] 0)
def x136:=(fun a=>Q (G c136 [a])) x136_1
def x137:=Q (F Tryz.f137)
def c138:=Q (F Tryz.f138)
def x138_1:=Q (L c138 [] 0)
def x138:=(fun a=>Q (G c138 [a])) x138_1
def c139:=Q (F Tryz.f139)
def x139_1:=Q (L c139 [] 0)
def x139:=(fun a=>Q (G c139 [a])) x139_1
def x140:=Q (F Tryz.f140)
def c141:=Q (F Tryz.f141)
def x141_1:=Q (L c141 [] 0)
def x141_2:=(fun a=>Q (L c141 [a] 1)) x141_1
def x141:=(fun a b=>Q (G c141 [a,b])) x141_1 x141_2
def x142:=Q (F Tryz.f142)
def x143:=Q (F Tryz.f143)
def c144:=Q (F Tryz.f144)
def x144_1:=Q (L c144 [] 0)
def x144_2:=(fun a=>Q (L c144 [a] 1)) x144_1
def x144_3:=(fun a b=>Q (L c144 [a,b] 2)) x144_1 x144_2
def x144:=(fun a b c=>Q (G c144 [a,b,c])) x144_1 x144_2 x144_3
def x145:=Q (F Tryz.f145)
def x146:=Q (F Tryz.f146)
def x147:=Q (F Tryz.f147)
def c148:=Q (F Tryz.f148)
def x148_1:=Q (L c148 [] 0)
def x148:=(fun a=>Q (G c148 [a])) x148_1
def x149:=Q (F Tryz.f149)
def x150:=Q (F Tryz.f150)
def c151:=Q (F Tryz.f151)
def x151_1:=Q (L c151 [] 0)
def x151:=(fun a=>Q (G c151 [a])) x151_1
def x152:=Q (F Tryz.f152)
def c153:=Q (F Tryz.f153)
def x153_1:=Q (L c153 [] 0)
def x153_2:=(fun a=>Q (L c153 [a] 1)) x153_1
def x153:=(fun a b=>Q (G c153 [a,b])) x153_1 x153_2
def x154:=Q (F Tryz.f154)
def x155:=Q (F Tryz.f155)
def x156:=Q (F Tryz.f156)
def x157:=Q (F Tryz.f157)
def x158:=Q (F Tryz.f158)
def x159:=Q (F Tryz.f159)
def x160:=Q (F Tryz.f160)
def c161:=Q (F Tryz.f161)
def x161_1:=Q (L c161 [] 0)
def x161:=(fun a=>Q (G c161 [a])) x161_1
def x162:=Q (F Tryz.f162)
def x163:=Q (F Tryz.f163)
def c164:=Q (F Tryz.f164)
def x164_1:=Q (L c164 [] 0)
def x164:=(fun a=>Q (G c164 [a])) x164_1
def x165:=Q (F Tryz.f165)
def x166:=Q (F Tryz.f166)
def x167:=Q (F Tryz.f167)
def x168:=Q (F Tryz.f168)
def x169:=Q (F Tryz.f169)
def x170:=Q (F Tryz.f170)
def c171:=Q (F Tryz.f171)
def x171_1:=Q (L c171 [] 0)
def x171:=(fun a=>Q (G c171 [a])) x171_1
def x172:=Q (F Tryz.f172)
def x173:=Q (F Tryz.f173)
def c174:=Q (F Tryz.f174)
def x174_1:=Q (L c174 [] 0)
def x174:=(fun a=>Q (G c174 [a])) x174_1
def c175:=Q (F Tryz.f175)
def x175_1:=Q (L c175 [] 0)
def x175:=(fun a=>Q (G c175 [a])) x175_1
def c176:=Q (F Tryz.f176)
def x176_1:=Q (L c176 [] 0)
def x176:=(fun a=>Q (G c176 [a])) x176_1
def x177:=Q (F Tryz.f177)
def c178:=Q (F Tryz.f178)
def x178_1:=Q (L c178 [] 0)
def x178:=(fun a=>Q (G c178 [a])) x178_1
def c179:=Q (F Tryz.f179)
def x179_1:=Q (L c179 [] 0)
def x179:=(fun a=>Q (G c179 [a])) x179_1
def c180:=Q (F Tryz.f180)
def x180_1:=Q (L c180 [] 0)
def x180:=(fun a=>Q (G c180 [a])) x180_1
def c181:=Q (F Tryz.f181)
def x181_1:=Q (L c181 [] 0)
def x181_2:=(fun a=>Q (L c181 [a] 1)) x181_1
def x181:=(fun a b=>Q (G c181 [a,b])) x181_1 x181_2
def x182:=Q (F Tryz.f182)
def c183:=Q (F Tryz.f183)
def x183_1:=Q (L c183 [] 0)
def x183:=(fun a=>Q (G c183 [a])) x183_1
def x184:=Q (F Tryz.f184)
def c185:=Q (F Tryz.f185)
def x185_1:=Q (L c185 [] 0)
def x185:=(fun a=>Q (G c185 [a])) x185_1
def x187:=Q (F Tryz.f187)
def c188:=Q (F Tryz.f188)
def x188_1:=Q (L c188 [] 0)
def x188:=(fun a=>Q (G c188 [a])) x188_1
def c189:=Q (F Tryz.f189)
def x189_1:=Q (L c189 [] 0)
def x189:=(fun a=>Q (G c189 [a])) x189_1
def x190:=Q (F Tryz.f190)
def c191:=Q (F Tryz.f191)
def x191_1:=Q (L c191 [] 0)
def x191:=(fun a=>Q (G c191 [a])) x191_1
def c192:=Q (F Tryz.f192)
def x192_1:=Q (L c192 [] 0)
def x192_2:=(fun a=>Q (L c192 [a] 1)) x192_1
def x192_3:=(fun a b=>Q (L c192 [a,b] 2)) x192_1 x192_2
def x192:=(fun a b c=>Q (G c192 [a,b,c])) x192_1 x192_2 x192_3
def c193:=Q (F Tryz.f193)
def x193_1:=Q (L c193 [] 0)
def x193:=(fun a=>Q (G c193 [a])) x193_1
def c194:=Q (F Tryz.f194)
def x194_1:=Q (L c194 [] 0)
def x194:=(fun a=>Q (G c194 [a])) x194_1
def c195:=Q (F Tryz.f195)
def x195_1:=Q (L c195 [] 0)
def x195:=(fun a=>Q (G c195 [a])) x195_1
def c196:=Q (F Tryz.f196)
def x196_1:=Q (L c196 [] 0)
def x196:=(fun a=>Q (G c196 [a])) x196_1
def c197:=Q (F Tryz.f197)
def x197_1:=Q (L c197 [] 0)
def x197:=(fun a=>Q (G c197 [a])) x197_1
def x206:=Q (F Tryz.f206)
def x207:=Q (F Tryz.f207)
inductive TT (α:Type)|l (k:Nat)(x:α)|n (k:Nat)(a b:TT α)
def TT.gt {α}(f:Nat):TT α->Option α
 |.l k x=>bif Nat.beq f k then some x else none
 |.n k a b=>bif Nat.blt f k then a.gt f else b.gt f
def TT.m {α β}(g:Nat->α->β):TT α->TT β
 |.l k x=>.l k (g k x)
 |.n k a b=>.n k (a.m g) (b.m g)
def TL:TT Vu:=(.n 107 (.n 60 (.n 32 (.n 18 (.n 11 (.n 8 (.n 7 (.l 6 x6) (.l 7 x7)) (.n 9 (.l 8 x8) (.n 10 (.l 9 x9) (.l 10 x10)))) (.n 15 (.n 12 (.l 11 x11) (.n 13 (.l 12 x12) (.l 13 x13))) (.n 16 (.l 15 x15) (.n 17 (.l 16 x16) (.l 17 x17))))) (.n 26 (.n 21 (.n 19 (.l 18 x18) (.l 19 x19)) (.n 22 (.l 21 x21) (.n 25 (.l 22 x22) (.l 25 x25)))) (.n 29 (.n 27 (.l 26 x26) (.n 28 (.l 27 x27) (.l 28 x28))) (.n 30 (.l 29 x29) (.n 31 (.l 30 x30) (.l 31 x31)))))) (.n 44 (.n 37 (.n 34 (.n 33 (.l 32 x32) (.l 33 x33)) (.n 35 (.l 34 x34) (.n 36 (.l 35 x35) (.l 36 x36)))) (.n 41 (.n 38 (.l 37 x37) (.n 39 (.l 38 x38) (.l 39 x39))) (.n 42 (.l 41 x41) (.n 43 (.l 42 x42) (.l 43 x43))))) (.n 50 (.n 47 (.n 45 (.l 44 x44) (.n 46 (.l 45 x45) (.l 46 x46))) (.n 48 (.l 47 x47) (.n 49 (.l 48 x48) (.l 49 x49)))) (.n 53 (.n 51 (.l 50 x50) (.n 52 (.l 51 x51) (.l 52 x52))) (.n 54 (.l 53 x53) (.n 57 (.l 54 x54) (.l 57 x57))))))) (.n 83 (.n 71 (.n 65 (.n 62 (.n 61 (.l 60 x60) (.l 61 x61)) (.n 63 (.l 62 x62) (.n 64 (.l 63 x63) (.l 64 x64)))) (.n 68 (.n 66 (.l 65 x65) (.n 67 (.l 66 x66) (.l 67 x67))) (.n 69 (.l 68 x68) (.n 70 (.l 69 x69) (.l 70 x70))))) (.n 76 (.n 73 (.n 72 (.l 71 x71) (.l 72 x72)) (.n 74 (.l 73 x73) (.n 75 (.l 74 x74) (.l 75 x75)))) (.n 80 (.n 77 (.l 76 x76) (.n 78 (.l 77 x77) (.l 78 x78))) (.n 81 (.l 80 x80) (.n 82 (.l 81 x81) (.l 82 x82)))))) (.n 94 (.n 88 (.n 85 (.n 84 (.l 83 x83) (.l 84 x84)) (.n 86 (.l 85 x85) (.n 87 (.l 86 x86) (.l 87 x87)))) (.n 91 (.n 89 (.l 88 x88) (.n 90 (.l 89 x89) (.l 90 x90))) (.n 92 (.l 91 x91) (.n 93 (.l 92 x92) (.l 93 x93))))) (.n 100 (.n 97 (.n 95 (.l 94 x94) (.n 96 (.l 95 x95) (.l 96 x96))) (.n 98 (.l 97 x97) (.n 99 (.l 98 x98) (.l 99 x99)))) (.n 103 (.n 101 (.l 100 x100) (.n 102 (.l 101 x101) (.l 102 x102))) (.n 104 (.l 103 x103) (.n 105 (.l 104 x104) (.l 105 x105)))))))) (.n 154 (.n 130 (.n 119 (.n 113 (.n 109 (.n 108 (.l 107 x107) (.l 108 x108)) (.n 111 (.l 109 x109) (.n 112 (.l 111 x111) (.l 112 x112)))) (.n 116 (.n 114 (.l 113 x113) (.n 115 (.l 114 x114) (.l 115 x115))) (.n 117 (.l 116 x116) (.n 118 (.l 117 x117) (.l 118 x118))))) (.n 124 (.n 121 (.n 120 (.l 119 x119) (.l 120 x120)) (.n 122 (.l 121 x121) (.n 123 (.l 122 x122) (.l 123 x123)))) (.n 127 (.n 125 (.l 124 x124) (.n 126 (.l 125 x125) (.l 126 x126))) (.n 128 (.l 127 x127) (.n 129 (.l 128 x128) (.l 129 x129)))))) (.n 142 (.n 136 (.n 133 (.n 131 (.l 130 x130) (.l 131 x131)) (.n 134 (.l 133 x133) (.n 135 (.l 134 x134) (.l 135 x135)))) (.n 139 (.n 137 (.l 136 x136) (.n 138 (.l 137 x137) (.l 138 x138))) (.n 140 (.l 139 x139) (.n 141 (.l 140 x140) (.l 141 x141))))) (.n 148 (.n 145 (.n 143 (.l 142 x142) (.n 144 (.l 143 x143) (.l 144 x144))) (.n 146 (.l 145 x145) (.n 147 (.l 146 x146) (.l 147 x147)))) (.n 151 (.n 149 (.l 148 x148) (.n 150 (.l 149 x149) (.l 150 x150))) (.n 152 (.l 151 x151) (.n 153 (.l 152 x152) (.l 153 x153))))))) (.n 176 (.n 165 (.n 159 (.n 156 (.n 155 (.l 154 x154) (.l 155 x155)) (.n 157 (.l 156 x156) (.n 158 (.l 157 x157) (.l 158 x158)))) (.n 162 (.n 160 (.l 159 x159) (.n 161 (.l 160 x160) (.l 161 x161))) (.n 163 (.l 162 x162) (.n 164 (.l 163 x163) (.l 164 x164))))) (.n 170 (.n 167 (.n 166 (.l 165 x165) (.l 166 x166)) (.n 168 (.l 167 x167) (.n 169 (.l 168 x168) (.l 169 x169)))) (.n 173 (.n 171 (.l 170 x170) (.n 172 (.l 171 x171) (.l 172 x172))) (.n 174 (.l 173 x173) (.n 175 (.l 174 x174) (.l 175 x175)))))) (.n 188 (.n 181 (.n 178 (.n 177 (.l 176 x176) (.l 177 x177)) (.n 179 (.l 178 x178) (.n 180 (.l 179 x179) (.l 180 x180)))) (.n 184 (.n 182 (.l 181 x181) (.n 183 (.l 182 x182) (.l 183 x183))) (.n 185 (.l 184 x184) (.n 187 (.l 185 x185) (.l 187 x187))))) (.n 194 (.n 191 (.n 189 (.l 188 x188) (.n 190 (.l 189 x189) (.l 190 x190))) (.n 192 (.l 191 x191) (.n 193 (.l 192 x192) (.l 193 x193)))) (.n 197 (.n 195 (.l 194 x194) (.n 196 (.l 195 x195) (.l 196 x196))) (.n 206 (.l 197 x197) (.n 207 (.l 206 x206) (.l 207 x207)))))))))
def X (f:Nat):Option Vu:=TL.gt f
end
end Go.Proofs.YtidginchkjhobaaGreat
