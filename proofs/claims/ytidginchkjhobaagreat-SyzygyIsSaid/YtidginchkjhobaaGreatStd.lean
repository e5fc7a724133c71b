/- The functions that are called over the caller's blocks, and the bases that the contracts speak of. -/
import Derived.Test.YtidginchkjhobaaGreatWords
import Derived.Test.YtidginchkjhobaaGreatTab
import Derived.Test.YtidginchkjhobaaGreatEvMemo
namespace Go.Proofs.YtidginchkjhobaaGreat
open Go.Ev

def inNats (n : Nat) : List Nat → Bool
  | [] => false
  | x :: xs => bif Nat.beq n x then true else inNats n xs

/-- The functions that are called over the caller's blocks. -/
def heapFs : List Nat := [131, 132, 165, 169, 186, 198, 199, 200, 201, 202, 203, 204, 205, 208, 210, 211, 212, 213, 168, 120, 196, 197, 192]
def md (f : Nat) : Ev.Mode := bif inNats f heapFs then .heap else .pure

/-- The table, but for the library's sort. -/
def XV : Nat → Option XFunc := without [186] X

/-- The bases with these modes and this table. -/
structure Std (B : Base) : Prop where
  mode : B.E0.mode = md
  tab : ∀ f xf, XV f = some xf → B.X f = some xf

theorem Std.evt {B : Base} (h : Std B) : Evt B fun E _ => E.mode = md := by
  have := Evt.mode (B := B)
  rwa [h.mode] at this

end Go.Proofs.YtidginchkjhobaaGreat

namespace Go.Proofs.YtidginchkjhobaaGreat
open Go.Ev
theorem MDS : md 2 = .pure ∧ md 3 = .pure ∧ md 4 = .pure ∧ md 5 = .pure ∧ md 6 = .pure ∧ md 7 = .pure ∧ md 8 = .pure ∧ md 9 = .pure ∧ md 10 = .pure ∧ md 11 = .pure ∧ md 12 = .pure ∧ md 13 = .pure ∧ md 14 = .pure ∧ md 15 = .pure ∧ md 16 = .pure ∧ md 17 = .pure ∧ md 18 = .pure ∧ md 19 = .pure ∧ md 20 = .pure ∧ md 21 = .pure ∧ md 22 = .pure ∧ md 23 = .pure ∧ md 24 = .pure ∧ md 25 = .pure ∧ md 26 = .pure ∧ md 27 = .pure ∧ md 28 = .pure ∧ md 29 = .pure ∧ md 30 = .pure ∧ md 31 = .pure ∧ md 32 = .pure ∧ md 33 = .pure ∧ md 34 = .pure ∧ md 35 = .pure ∧ md 36 = .pure ∧ md 37 = .pure ∧ md 38 = .pure ∧ md 39 = .pure ∧ md 40 = .pure ∧ md 41 = .pure ∧ md 42 = .pure ∧ md 43 = .pure ∧ md 44 = .pure ∧ md 45 = .pure ∧ md 46 = .pure ∧ md 47 = .pure ∧ md 48 = .pure ∧ md 49 = .pure ∧ md 50 = .pure ∧ md 51 = .pure ∧ md 52 = .pure ∧ md 53 = .pure ∧ md 54 = .pure ∧ md 55 = .pure ∧ md 56 = .pure ∧ md 57 = .pure ∧ md 58 = .pure ∧ md 59 = .pure ∧ md 60 = .pure ∧ md 61 = .pure ∧ md 62 = .pure ∧ md 63 = .pure ∧ md 64 = .pure ∧ md 65 = .pure ∧ md 66 = .pure ∧ md 67 = .pure ∧ md 68 = .pure ∧ md 69 = .pure ∧ md 70 = .pure ∧ md 71 = .pure ∧ md 72 = .pure ∧ md 73 = .pure ∧ md 74 = .pure ∧ md 75 = .pure ∧ md 76 = .pure ∧ md 77 = .pure ∧ md 78 = .pure ∧ md 79 = .pure ∧ md 80 = .pure ∧ md 81 = .pure ∧ md 82 = .pure ∧ md 83 = .pure ∧ md 84 = .pure ∧ md 85 = .pure ∧ md 86 = .pure ∧ md 87 = .pure ∧ md 88 = .pure ∧ md 89 = .pure ∧ md 90 = .pure ∧ md 91 = .pure ∧ md 92 = .pure ∧ md 93 = .pure ∧ md 94 = .pure ∧ md 95 = .pure ∧ md 96 = .pure ∧ md 97 = .pure ∧ md 98 = .pure ∧ md 99 = .pure ∧ md 100 = .pure ∧ md 101 = .pure ∧ md 102 = .pure ∧ md 103 = .pure ∧ md 104 = .pure ∧ md 105 = .pure ∧ md 106 = .pure ∧ md 107 = .pure ∧ md 108 = .pure ∧ md 109 = .pure ∧ md 110 = .pure ∧ md 111 = .pure ∧ md 112 = .pure ∧ md 113 = .pure ∧ md 114 = .pure ∧ md 115 = .pure ∧ md 116 = .pure ∧ md 117 = .pure ∧ md 118 = .pure ∧ md 119 = .pure ∧ md 120 = .heap ∧ md 121 = .pure ∧ md 122 = .pure ∧ md 123 = .pure ∧ md 124 = .pure ∧ md 125 = .pure ∧ md 126 = .pure ∧ md 127 = .pure ∧ md 128 = .pure ∧ md 129 = .pure ∧ md 130 = .pure ∧ md 131 = .heap ∧ md 132 = .heap ∧ md 133 = .pure ∧ md 134 = .pure ∧ md 135 = .pure ∧ md 136 = .pure ∧ md 137 = .pure ∧ md 138 = .pure ∧ md 139 = .pure ∧ md 140 = .pure ∧ md 141 = .pure ∧ md 142 = .pure ∧ md 143 = .pure ∧ md 144 = .pure ∧ md 145 = .pure ∧ md 146 = .pure ∧ md 147 = .pure ∧ md 148 = .pure ∧ md 149 = .pure ∧ md 150 = .pure ∧ md 151 = .pure ∧ md 152 = .pure ∧ md 153 = .pure ∧ md 154 = .pure ∧ md 155 = .pure ∧ md 156 = .pure ∧ md 157 = .pure ∧ md 158 = .pure ∧ md 159 = .pure ∧ md 160 = .pure ∧ md 161 = .pure ∧ md 162 = .pure ∧ md 163 = .pure ∧ md 164 = .pure ∧ md 165 = .heap ∧ md 166 = .pure ∧ md 167 = .pure ∧ md 168 = .heap ∧ md 169 = .heap ∧ md 170 = .pure ∧ md 171 = .pure ∧ md 172 = .pure ∧ md 173 = .pure ∧ md 174 = .pure ∧ md 175 = .pure ∧ md 176 = .pure ∧ md 177 = .pure ∧ md 178 = .pure ∧ md 179 = .pure ∧ md 180 = .pure ∧ md 181 = .pure ∧ md 182 = .pure ∧ md 183 = .pure ∧ md 184 = .pure ∧ md 185 = .pure ∧ md 186 = .heap ∧ md 187 = .pure ∧ md 188 = .pure ∧ md 189 = .pure ∧ md 190 = .pure ∧ md 191 = .pure ∧ md 192 = .heap ∧ md 193 = .pure ∧ md 194 = .pure ∧ md 195 = .pure ∧ md 196 = .heap ∧ md 197 = .heap ∧ md 198 = .heap ∧ md 199 = .heap ∧ md 200 = .heap ∧ md 201 = .heap ∧ md 202 = .heap ∧ md 203 = .heap ∧ md 204 = .heap ∧ md 205 = .heap ∧ md 206 = .pure ∧ md 207 = .pure ∧ md 208 = .heap ∧ md 209 = .pure ∧ md 210 = .heap ∧ md 211 = .heap ∧ md 212 = .heap ∧ md 213 = .heap :=
  ⟨rfl, rfl, rfl, rfl, rfl, rfl, rfl, rfl, rfl, rfl, rfl, rfl, rfl, rfl, rfl, rfl, rfl, rfl, rfl, rfl, rfl, rfl, rfl, rfl, rfl, rfl, rfl, rfl, rfl, rfl, rfl, rfl, rfl, rfl, rfl, rfl, rfl, rfl, rfl, rfl, rfl, rfl, rfl, rfl, rfl, rfl, rfl, rfl, rfl, rfl, rfl, rfl, rfl, rfl, rfl, rfl, rfl, rfl, rfl, rfl, rfl, rfl, rfl, rfl, rfl, rfl, rfl, rfl, rfl, rfl, rfl, rfl, rfl, rfl, rfl, rfl, rfl, rfl, rfl, rfl, rfl, rfl, rfl, rfl, rfl, rfl, rfl, rfl, rfl, rfl, rfl, rfl, rfl, rfl, rfl, rfl, rfl, rfl, rfl, rfl, rfl, rfl, rfl, rfl, rfl, rfl, rfl, rfl, rfl, rfl, rfl, rfl, rfl, rfl, rfl, rfl, rfl, rfl, rfl, rfl, rfl, rfl, rfl, rfl, rfl, rfl, rfl, rfl, rfl, rfl, rfl, rfl, rfl, rfl, rfl, rfl, rfl, rfl, rfl, rfl, rfl, rfl, rfl, rfl, rfl, rfl, rfl, rfl, rfl, rfl, rfl, rfl, rfl, rfl, rfl, rfl, rfl, rfl, rfl, rfl, rfl, rfl, rfl, rfl, rfl, rfl, rfl, rfl, rfl, rfl, rfl, rfl, rfl, rfl, rfl, rfl, rfl, rfl, rfl, rfl, rfl, rfl, rfl, rfl, rfl, rfl, rfl, rfl, rfl, rfl, rfl, rfl, rfl, rfl, rfl, rfl, rfl, rfl, rfl, rfl, rfl, rfl, rfl, rfl, rfl, rfl, rfl, rfl, rfl, rfl, rfl, rfl⟩

end Go.Proofs.YtidginchkjhobaaGreat
