/- The tables of this seat's translation as the engine wants them: the types' shapes and zero values, the functions' numbers by name. Printed by program; every row is checked by Lean. -/
import Derived.Test.YtchcjbbnkcodjaaGreatDoorProg
import Derived.Test.YtchcjbbnkcodjaaGreatDoorVcRule
import Derived.KernelRfl
set_option linter.unusedVariables false
set_option linter.unusedSimpArgs false
namespace Go.Proofs.YtchcjbbnkcodjaaGreatDoor
open Go Go.Vc
inductive BT (α : Type) where
  | leaf
  | node (l : BT α) (k : Nat) (x : α) (r : BT α)
def look {α : Type} : BT α → Nat → Option α
  | .leaf, _ => none
  | .node l k x r, t => match Nat.beq t k with
    | true => some x
    | false => match Nat.blt t k with
      | true => look l t
      | false => look r t
def BT.toL {α : Type} : BT α → List (Nat × α)
  | .leaf => []
  | .node l k x r => l.toL ++ (k, x) :: r.toL
theorem look_mem {α : Type} : ∀ {b : BT α} {t : Nat} {x : α}, look b t = some x → (t, x) ∈ b.toL
  | .leaf, _, _, h => by simp [look] at h
  | .node l k y r, t, x, h => by
    simp only [look] at h
    split at h
    · rename_i e
      obtain rfl := Nat.eq_of_beq_eq_true e
      cases h; simp [BT.toL]
    · split at h
      · exact List.mem_append_left _ (look_mem h)
      · exact List.mem_append_right _ (List.mem_cons_of_mem _ (look_mem h))
set_option maxRecDepth 100000 in
def undB : BT TypeDesc := (.node (.node (.node (.node (.node (.node (.node (.node (.node .leaf 1 (.func #[] #[] false) .leaf) 2 (.int .i64) .leaf) 3 (.int .i64) (.node .leaf 4 (.bool) .leaf)) 5 (.int .u8) (.node (.node .leaf 6 (.int .u8) .leaf) 7 (.struct #[⟨"x", 2, 0, false, "", "runtime", 0⟩, ⟨"y", 3, 1, false, "", "runtime", 8⟩, ⟨"signed", 4, 2, false, "", "runtime", 16⟩, ⟨"code", 6, 3, false, "", "runtime", 17⟩]) (.node .leaf 8 (.struct #[⟨"x", 2, 0, false, "", "runtime", 0⟩, ⟨"y", 3, 1, false, "", "runtime", 8⟩, ⟨"signed", 4, 2, false, "", "runtime", 16⟩, ⟨"code", 6, 3, false, "", "runtime", 17⟩]) .leaf))) 9 (.string) (.node (.node (.node .leaf 10 (.string) .leaf) 11 (.string) (.node .leaf 12 (.int .u64) .leaf)) 13 (.struct #[⟨"msg", 9, 0, false, "", "runtime", 0⟩, ⟨"addr", 12, 1, false, "", "runtime", 16⟩]) (.node (.node .leaf 14 (.struct #[⟨"msg", 9, 0, false, "", "runtime", 0⟩, ⟨"addr", 12, 1, false, "", "runtime", 16⟩]) .leaf) 15 (.pointer 286) (.node .leaf 16 (.pointer 289) .leaf)))) 17 (.pointer 296) (.node (.node (.node (.node .leaf 18 (.struct #[⟨"typ", 17, 0, false, "", "internal/runtime/maps", 0⟩]) .leaf) 19 (.struct #[⟨"typ", 17, 0, false, "", "internal/runtime/maps", 0⟩]) (.node .leaf 21 (.int .i32) .leaf)) 22 (.func #[9] #[4] false) (.node (.node .leaf 23 (.slice 138) .leaf) 24 (.struct #[⟨"Neg", 4, 0, false, "", "", 0⟩, ⟨"Num", 23, 1, false, "", "", 8⟩, ⟨"Den", 23, 2, false, "", "", 32⟩]) (.node .leaf 25 (.struct #[⟨"Neg", 4, 0, false, "", "", 0⟩, ⟨"Num", 23, 1, false, "", "", 8⟩, ⟨"Den", 23, 2, false, "", "", 32⟩]) .leaf))) 26 (.slice 28) (.node (.node (.node .leaf 27 (.struct #[⟨"Op", 3, 0, false, "", "", 0⟩, ⟨"Arg", 3, 1, false, "", "", 8⟩, ⟨"Num", 25, 2, false, "", "", 16⟩, ⟨"Name", 9, 5, false, "", "", 72⟩, ⟨"Kids", 26, 6, false, "", "", 88⟩]) .leaf) 28 (.struct #[⟨"Op", 3, 0, false, "", "", 0⟩, ⟨"Arg", 3, 1, false, "", "", 8⟩, ⟨"Num", 25, 2, false, "", "", 16⟩, ⟨"Name", 9, 5, false, "", "", 72⟩, ⟨"Kids", 26, 6, false, "", "", 88⟩]) (.node .leaf 29 (.int .i64) .leaf)) 31 (.func #[9] #[28, 3, 29] false) (.node (.node .leaf 32 (.func #[] #[4] false) .leaf) 33 (.func #[28, 29, 28, 29] #[4] false) (.node .leaf 34 (.func #[28] #[4] false) .leaf))))) 36 (.func #[28] #[9, 29] false) (.node (.node (.node (.node (.node (.node .leaf 37 (.func #[28] #[3] false) .leaf) 38 (.func #[28, 28] #[4] false) .leaf) 40 (.func #[28, 9, 9] #[28, 29] false) (.node .leaf 41 (.func #[28, 9, 9] #[4] false) .leaf)) 42 (.slice 96) (.node (.node .leaf 43 (.func #[28, 42] #[28, 29] false) .leaf) 44 (.func #[28, 42] #[4] false) (.node .leaf 46 (.func #[28, 28] #[4, 29] false) .leaf))) 48 (.func #[28] #[3, 29] false) (.node (.node (.node .leaf 49 (.slice 9) .leaf) 51 (.func #[28] #[49, 29] false) (.node .leaf 52 (.func #[28] #[4, 29] false) .leaf)) 53 (.func #[49, 49] #[4] false) (.node (.node .leaf 55 (.func #[28] #[28, 28, 28, 29] false) .leaf) 56 (.func #[28, 9] #[4, 29] false) (.node .leaf 57 (.func #[28, 9] #[4] false) .leaf)))) 58 (.func #[3, 28, 28] #[28] false) (.node (.node (.node (.node .leaf 59 (.func #[28, 28, 9] #[4] false) .leaf) 60 (.func #[] #[49] false) (.node .leaf 61 (.slice 115) .leaf)) 63 (.func #[9, 4] #[61, 3] false) (.node (.node .leaf 64 (.pointer 122) .leaf) 65 (.func #[61, 3] #[64] false) (.node .leaf 66 (.struct #[⟨"Err", 29, 0, false, "", "", 0⟩, ⟨"At", 3, 1, false, "", "", 8⟩]) .leaf))) 67 (.struct #[⟨"Err", 29, 0, false, "", "", 0⟩, ⟨"At", 3, 1, false, "", "", 8⟩]) (.node (.node (.node .leaf 68 (.func #[1] #[67] false) .leaf) 69 (.func #[] #[28] false) (.node .leaf 70 (.func #[] #[67] false) .leaf)) 71 (.func #[28] #[28, 29] false) (.node (.node .leaf 72 (.slice 78) .leaf) 74 (.func #[9, 4] #[72, 3, 4] false) (.node .leaf 75 (.pointer 82) .leaf)))))) 76 (.func #[72, 3] #[75] false) (.node (.node (.node (.node (.node (.node (.node .leaf 77 (.struct #[⟨"Kind", 3, 0, false, "", "", 0⟩, ⟨"At", 3, 1, false, "", "", 8⟩, ⟨"Text", 9, 2, false, "", "", 16⟩]) .leaf) 78 (.struct #[⟨"Kind", 3, 0, false, "", "", 0⟩, ⟨"At", 3, 1, false, "", "", 8⟩, ⟨"Text", 9, 2, false, "", "", 16⟩]) .leaf) 79 (.func #[] #[78] false) (.node .leaf 80 (.slice 136) .leaf)) 81 (.struct #[⟨"L", 72, 0, false, "", "", 0⟩, ⟨"I", 3, 1, false, "", "", 24⟩, ⟨"End", 3, 2, false, "", "", 32⟩, ⟨"Bad", 3, 3, false, "", "", 40⟩, ⟨"Uses", 80, 4, false, "", "", 48⟩]) (.node (.node .leaf 82 (.struct #[⟨"L", 72, 0, false, "", "", 0⟩, ⟨"I", 3, 1, false, "", "", 24⟩, ⟨"End", 3, 2, false, "", "", 32⟩, ⟨"Bad", 3, 3, false, "", "", 40⟩, ⟨"Uses", 80, 4, false, "", "", 48⟩]) .leaf) 83 (.func #[72, 80] #[3, 29] false) (.node .leaf 84 (.func #[25] #[4] false) .leaf))) 85 (.func #[28] #[9] false) (.node (.node (.node .leaf 86 (.func #[89] #[9] false) .leaf) 87 (.slice 138) (.node .leaf 88 (.struct #[⟨"Neg", 4, 0, false, "", "", 0⟩, ⟨"N", 87, 1, false, "", "", 8⟩, ⟨"D", 87, 2, false, "", "", 32⟩]) .leaf)) 89 (.struct #[⟨"Neg", 4, 0, false, "", "", 0⟩, ⟨"N", 87, 1, false, "", "", 8⟩, ⟨"D", 87, 2, false, "", "", 32⟩]) (.node (.node .leaf 90 (.func #[25] #[89] false) .leaf) 91 (.func #[25, 25] #[4] false) (.node .leaf 92 (.func #[28, 93] #[28] false) .leaf)))) 93 (.func #[28] #[28, 4] false) (.node (.node (.node (.node .leaf 94 (.func #[28, 42] #[28] false) .leaf) 95 (.struct #[⟨"Name", 9, 0, false, "", "", 0⟩, ⟨"E", 28, 1, false, "", "", 16⟩]) (.node .leaf 96 (.struct #[⟨"Name", 9, 0, false, "", "", 0⟩, ⟨"E", 28, 1, false, "", "", 16⟩]) .leaf)) 97 (.map 9 28) (.node (.node .leaf 99 (.func #[28, 3, 3] #[3] false) .leaf) 100 (.map 9 4) (.node .leaf 101 (.func #[34] #[] false) .leaf))) 102 (.func #[28] #[101] false) (.node (.node (.node .leaf 103 (.func #[105] #[49] false) .leaf) 104 (.func #[22] #[] false) (.node .leaf 105 (.func #[22] #[] false) .leaf)) 106 (.func #[100] #[105] false) (.node (.node .leaf 107 (.func #[28, 49] #[49] false) .leaf) 109 (.func #[28] #[28, 28, 28, 4] false) (.node .leaf 110 (.array 3 29) .leaf))))) 112 (.func #[28] #[4, 28, 28, 28] false) (.node (.node (.node (.node (.node (.node .leaf 113 (.func #[28, 9, 4] #[4] false) .leaf) 114 (.struct #[⟨"Kind", 3, 0, false, "", "", 0⟩, ⟨"Text", 9, 1, false, "", "", 8⟩, ⟨"At", 3, 2, false, "", "", 24⟩]) .leaf) 115 (.struct #[⟨"Kind", 3, 0, false, "", "", 0⟩, ⟨"Text", 9, 1, false, "", "", 8⟩, ⟨"At", 3, 2, false, "", "", 24⟩]) (.node .leaf 116 (.func #[9] #[3] false) .leaf)) 118 (.func #[9] #[3, 4] false) (.node (.node .leaf 119 (.func #[9, 9] #[4] false) .leaf) 120 (.slice 131) (.node .leaf 121 (.struct #[⟨"tokens", 61, 0, false, "", "inequality/syntax", 0⟩, ⟨"next", 3, 1, false, "", "inequality/syntax", 24⟩, ⟨"end", 3, 2, false, "", "inequality/syntax", 32⟩, ⟨"counts", 120, 3, false, "", "inequality/syntax", 40⟩]) .leaf))) 122 (.struct #[⟨"tokens", 61, 0, false, "", "inequality/syntax", 0⟩, ⟨"next", 3, 1, false, "", "inequality/syntax", 24⟩, ⟨"end", 3, 2, false, "", "inequality/syntax", 32⟩, ⟨"counts", 120, 3, false, "", "inequality/syntax", 40⟩]) (.node (.node (.node .leaf 123 (.func #[3, 3, 26] #[28] true) .leaf) 124 (.slice 67) (.node .leaf 126 (.func #[9, 9] #[9, 9, 4] false) .leaf)) 127 (.func #[9, 9] #[9] false) (.node (.node .leaf 129 (.func #[9] #[25, 29] false) .leaf) 130 (.struct #[⟨"at", 3, 0, false, "", "inequality/syntax", 0⟩, ⟨"low", 3, 1, false, "", "inequality/syntax", 8⟩, ⟨"high", 3, 2, false, "", "inequality/syntax", 16⟩, ⟨"n", 3, 3, false, "", "inequality/syntax", 24⟩]) (.node .leaf 131 (.struct #[⟨"at", 3, 0, false, "", "inequality/syntax", 0⟩, ⟨"low", 3, 1, false, "", "inequality/syntax", 8⟩, ⟨"high", 3, 2, false, "", "inequality/syntax", 16⟩, ⟨"n", 3, 3, false, "", "inequality/syntax", 24⟩]) .leaf)))) 132 (.func #[28] #[28] false) (.node (.node (.node (.node .leaf 133 (.func #[9, 3] #[3] false) .leaf) 134 (.func #[9, 3, 4] #[3] false) (.node .leaf 135 (.struct #[⟨"T", 78, 0, false, "", "", 0⟩, ⟨"Root", 4, 3, false, "", "", 32⟩]) .leaf)) 136 (.struct #[⟨"T", 78, 0, false, "", "", 0⟩, ⟨"Root", 4, 3, false, "", "", 32⟩]) (.node (.node .leaf 137 (.func #[89] #[25] false) .leaf) 138 (.int .u32) (.node .leaf 139 (.pointer 142) .leaf))) 140 (.slice 5) (.node (.node (.node .leaf 141 (.struct #[⟨"addr", 139, 0, false, "", "strings", 0⟩, ⟨"buf", 140, 1, false, "", "strings", 8⟩]) .leaf) 142 (.struct #[⟨"addr", 139, 0, false, "", "strings", 0⟩, ⟨"buf", 140, 1, false, "", "strings", 8⟩]) (.node .leaf 143 (.func #[139, 28] #[] false) .leaf)) 144 (.func #[] #[9] false) (.node (.node .leaf 145 (.func #[28, 3] #[9] false) .leaf) 146 (.func #[3] #[9] false) (.node .leaf 147 (.func #[87] #[9] false) .leaf))))))) 148 (.func #[23] #[87] false) (.node (.node (.node (.node (.node (.node (.node (.node .leaf 149 (.func #[150] #[87] false) .leaf) 150 (.int .u64) .leaf) 151 (.func #[4, 87, 87] #[89] false) (.node .leaf 152 (.func #[89, 89] #[3] false) .leaf)) 153 (.func #[25, 25] #[3, 29] false) (.node (.node .leaf 154 (.func #[26, 26, 38] #[4] false) .leaf) 155 (.func #[28, 34] #[4] false) (.node .leaf 156 (.func #[49] #[] false) .leaf))) 157 (.func #[49, 9] #[49] false) (.node (.node (.node .leaf 158 (.func #[3] #[4] false) .leaf) 159 (.func #[28, 3, 28] #[28] false) (.node .leaf 160 (.func #[3, 3, 28] #[28] false) .leaf)) 161 (.func #[5] #[4] false) (.node (.node .leaf 162 (.func #[] #[3] false) .leaf) 163 (.func #[9, 5] #[9] false) (.node .leaf 164 (.array 256 4) .leaf)))) 165 (.array 256 4) (.node (.node (.node (.node .leaf 167 (.func #[9] #[165, 4] false) .leaf) 168 (.func #[9, 169] #[9] false) (.node .leaf 169 (.pointer 165) .leaf)) 171 (.func #[9] #[9, 9] false) (.node (.node .leaf 172 (.slice 138) .leaf) 173 (.struct #[⟨"Neg", 4, 0, false, "", "", 0⟩, ⟨"Num", 172, 1, false, "", "", 8⟩, ⟨"Den", 172, 2, false, "", "", 32⟩]) (.node .leaf 174 (.struct #[⟨"Neg", 4, 0, false, "", "", 0⟩, ⟨"Num", 172, 1, false, "", "", 8⟩, ⟨"Den", 172, 2, false, "", "", 32⟩]) .leaf))) 175 (.func #[4, 172, 172] #[174] false) (.node (.node (.node .leaf 176 (.func #[9] #[172] false) .leaf) 177 (.func #[150] #[172] false) (.node .leaf 178 (.func #[3] #[172] false) .leaf)) 179 (.func #[] #[25, 29] false) (.node (.node .leaf 180 (.func #[25] #[25, 29] false) .leaf) 181 (.func #[89] #[25, 29] false) (.node .leaf 182 (.func #[9] #[87] false) .leaf))))) 183 (.func #[87, 3] #[87] false) (.node (.node (.node (.node (.node (.node .leaf 184 (.func #[89] #[4] false) .leaf) 185 (.func #[87] #[23] false) .leaf) 186 (.func #[25] #[9, 29] false) (.node .leaf 190 (.func #[9] #[3, 188] false) .leaf)) 191 (.func #[139, 28, 3] #[] false) (.node (.node .leaf 192 (.func #[139, 28, 3, 3] #[] false) .leaf) 193 (.pointer 5) (.node .leaf 194 (.func #[3] #[89] false) .leaf))) 196 (.func #[87, 138] #[87, 138] false) (.node (.node (.node .leaf 197 (.func #[87] #[87] false) .leaf) 198 (.func #[87, 87] #[87] false) (.node .leaf 200 (.func #[87, 87] #[87, 87] false) .leaf)) 201 (.func #[89] #[3] false) (.node (.node .leaf 202 (.func #[89, 89] #[89] false) .leaf) 204 (.func #[25] #[174, 4] false) (.node .leaf 205 (.func #[174] #[3] false) .leaf)))) 206 (.func #[3] #[3] false) (.node (.node (.node (.node .leaf 207 (.func #[3] #[3, 4] false) .leaf) 208 (.func #[23] #[172] false) (.node .leaf 209 (.func #[49, 105] #[49] false) .leaf)) 210 (.func #[49, 3, 3, 3] #[] false) (.node (.node .leaf 211 (.func #[212] #[3] false) .leaf) 212 (.int .u64) (.node .leaf 213 (.func #[28] #[174, 4] false) .leaf))) 215 (.func #[28] #[89, 4] false) (.node (.node (.node .leaf 216 (.func #[3, 3] #[3] false) .leaf) 217 (.func #[9, 9] #[3] false) (.node .leaf 219 (.func #[9] #[21, 3] false) .leaf)) 220 (.func #[9, 21] #[4] false) (.node (.node .leaf 221 (.func #[172] #[172] false) .leaf) 223 (.func #[172] #[172, 172] false) (.node .leaf 224 (.func #[23] #[23] false) .leaf)))))) 225 (.func #[25, 226] #[25, 29] false) (.node (.node (.node (.node (.node (.node (.node .leaf 226 (.func #[174] #[174] false) .leaf) 227 (.func #[4] #[3] false) .leaf) 228 (.func #[172] #[9] false) (.node .leaf 229 (.map 3 9) .leaf)) 230 (.func #[87, 87] #[3] false) (.node (.node .leaf 231 (.func #[87, 87] #[138] false) .leaf) 232 (.func #[89] #[89] false) (.node .leaf 233 (.func #[172] #[3] false) .leaf))) 234 (.func #[49, 3, 3] #[] false) (.node (.node (.node .leaf 235 (.int .i64) .leaf) 237 (.func #[49, 3, 3] #[3, 235] false) (.node .leaf 238 (.func #[49, 3, 3] #[4] false) .leaf)) 239 (.func #[49, 3, 3, 3] #[3] false) (.node (.node .leaf 240 (.func #[49, 3, 3, 3] #[3, 4] false) .leaf) 241 (.func #[138] #[3] false) (.node .leaf 242 (.func #[150] #[3] false) .leaf)))) 243 (.func #[] #[174] false) (.node (.node (.node (.node .leaf 245 (.func #[3] #[115, 4] false) .leaf) 246 (.func #[3] #[26] false) (.node .leaf 247 (.func #[9] #[] false) .leaf)) 248 (.func #[] #[25] false) (.node (.node .leaf 249 (.func #[9, 5] #[3] false) .leaf) 250 (.func #[9, 21] #[3] false) (.node .leaf 252 (.func #[138] #[172, 138] false) .leaf))) 253 (.func #[23, 172] #[138] false) (.node (.node (.node .leaf 254 (.func #[9] #[28] false) .leaf) 255 (.func #[140] #[] false) (.node .leaf 257 (.func #[256] #[256] false) .leaf)) 258 (.func #[2, 3] #[9] false) (.node (.node .leaf 259 (.func #[87, 87, 150] #[4] false) .leaf) 260 (.func #[] #[87] false) (.node .leaf 261 (.int .u64) .leaf))))) 262 (.func #[3] #[212] false) (.node (.node (.node (.node (.node .leaf 263 (.func #[] #[150] false) .leaf) 264 (.func #[49, 3, 265] #[3] false) (.node .leaf 265 (.pointer 3) .leaf)) 266 (.func #[49, 3, 3, 3, 265] #[3] false) (.node (.node .leaf 268 (.func #[9] #[138, 138] false) .leaf) 269 (.array 256 5) (.node .leaf 270 (.struct #[⟨"lo", 5, 0, false, "", "unicode/utf8", 0⟩, ⟨"hi", 5, 1, false, "", "unicode/utf8", 1⟩]) .leaf))) 271 (.struct #[⟨"lo", 5, 0, false, "", "unicode/utf8", 0⟩, ⟨"hi", 5, 1, false, "", "unicode/utf8", 1⟩]) (.node (.node (.node .leaf 272 (.array 16 271) .leaf) 273 (.func #[21] #[4] false) (.node .leaf 274 (.array 32 5) .leaf)) 275 (.array 24 5) (.node (.node .leaf 276 (.func #[140, 150] #[] false) .leaf) 278 (.func #[140, 150, 3, 4, 4] #[140, 9] false) (.node .leaf 279 (.pointer 261) .leaf)))) 281 (.func #[49, 3, 3, 265] #[3, 3] false) (.node (.node (.node (.node .leaf 282 (.array 20 150) .leaf) 283 (.array 65 5) (.node .leaf 284 (.array 64 5) .leaf)) 285 (.struct #[⟨"_interface", 17, 0, false, "", "runtime", 0⟩, ⟨"concrete", 17, 1, false, "", "runtime", 8⟩, ⟨"asserted", 17, 2, false, "", "runtime", 16⟩, ⟨"missingMethod", 9, 3, false, "", "runtime", 24⟩]) (.node (.node .leaf 286 (.struct #[⟨"_interface", 17, 0, false, "", "runtime", 0⟩, ⟨"concrete", 17, 1, false, "", "runtime", 8⟩, ⟨"asserted", 17, 2, false, "", "runtime", 16⟩, ⟨"missingMethod", 9, 3, false, "", "runtime", 24⟩]) .leaf) 287 (.array 0 16) (.node .leaf 288 (.struct #[⟨"_", 287, 0, false, "", "runtime", 0⟩]) .leaf))) 289 (.struct #[⟨"_", 287, 0, false, "", "runtime", 0⟩]) (.node (.node (.node .leaf 290 (.int .u8) .leaf) 291 (.int .u8) (.node .leaf 292 (.func #[256, 256] #[4] false) .leaf)) 293 (.int .i32) (.node (.node .leaf 294 (.int .i32) .leaf) 295 (.struct #[⟨"Size_", 12, 0, false, "", "", 0⟩, ⟨"PtrBytes", 12, 1, false, "", "", 8⟩, ⟨"Hash", 138, 2, false, "", "", 16⟩, ⟨"TFlag", 290, 3, false, "", "", 20⟩, ⟨"Align_", 5, 4, false, "", "", 21⟩, ⟨"FieldAlign_", 5, 5, false, "", "", 22⟩, ⟨"Kind_", 291, 6, false, "", "", 23⟩, ⟨"Equal", 292, 7, false, "", "", 24⟩, ⟨"GCData", 193, 8, false, "", "", 32⟩, ⟨"Str", 293, 9, false, "", "", 40⟩, ⟨"PtrToThis", 294, 10, false, "", "", 44⟩]) (.node .leaf 296 (.struct #[⟨"Size_", 12, 0, false, "", "", 0⟩, ⟨"PtrBytes", 12, 1, false, "", "", 8⟩, ⟨"Hash", 138, 2, false, "", "", 16⟩, ⟨"TFlag", 290, 3, false, "", "", 20⟩, ⟨"Align_", 5, 4, false, "", "", 21⟩, ⟨"FieldAlign_", 5, 5, false, "", "", 22⟩, ⟨"Kind_", 291, 6, false, "", "", 23⟩, ⟨"Equal", 292, 7, false, "", "", 24⟩, ⟨"GCData", 193, 8, false, "", "", 32⟩, ⟨"Str", 293, 9, false, "", "", 40⟩, ⟨"PtrToThis", 294, 10, false, "", "", 44⟩]) .leaf))))))))
set_option maxRecDepth 100000 in
def infB : BT (List Value × Nat) := (.node (.node (.node (.node (.node (.node (.node (.node (.node .leaf 1 ([.nilFunc], 8) .leaf) 2 ([.int .i64 0], 8) .leaf) 3 ([.int .i64 0], 8) (.node .leaf 4 ([.bool false], 1) .leaf)) 5 ([.int .u8 0], 1) (.node (.node .leaf 6 ([.int .u8 0], 1) .leaf) 7 ([.int .i64 0, .int .i64 0, .bool false, .int .u8 0], 24) (.node .leaf 8 ([.int .i64 0, .int .i64 0, .bool false, .int .u8 0], 24) .leaf))) 9 ([.string ByteArray.empty], 16) (.node (.node (.node .leaf 10 ([.string ByteArray.empty], 16) .leaf) 11 ([.string ByteArray.empty], 16) (.node .leaf 12 ([.int .u64 0], 8) .leaf)) 13 ([.string ByteArray.empty, .int .u64 0], 24) (.node (.node .leaf 14 ([.string ByteArray.empty, .int .u64 0], 24) .leaf) 15 ([.pointer none], 8) (.node .leaf 16 ([.pointer none], 8) .leaf)))) 17 ([.pointer none], 8) (.node (.node (.node (.node .leaf 18 ([.pointer none], 8) .leaf) 19 ([.pointer none], 8) (.node .leaf 21 ([.int .i32 0], 4) .leaf)) 22 ([.nilFunc], 8) (.node (.node .leaf 23 ([.slice none 0 0], 24) .leaf) 24 ([.bool false, .slice none 0 0, .slice none 0 0], 56) (.node .leaf 25 ([.bool false, .slice none 0 0, .slice none 0 0], 56) .leaf))) 26 ([.slice none 0 0], 24) (.node (.node (.node .leaf 27 ([.int .i64 0, .int .i64 0, .bool false, .slice none 0 0, .slice none 0 0, .string ByteArray.empty, .slice none 0 0], 112) .leaf) 28 ([.int .i64 0, .int .i64 0, .bool false, .slice none 0 0, .slice none 0 0, .string ByteArray.empty, .slice none 0 0], 112) (.node .leaf 29 ([.int .i64 0], 8) .leaf)) 31 ([.nilFunc], 8) (.node (.node .leaf 32 ([.nilFunc], 8) .leaf) 33 ([.nilFunc], 8) (.node .leaf 34 ([.nilFunc], 8) .leaf))))) 36 ([.nilFunc], 8) (.node (.node (.node (.node (.node .leaf 37 ([.nilFunc], 8) .leaf) 38 ([.nilFunc], 8) (.node .leaf 40 ([.nilFunc], 8) .leaf)) 41 ([.nilFunc], 8) (.node (.node .leaf 42 ([.slice none 0 0], 24) .leaf) 43 ([.nilFunc], 8) (.node .leaf 44 ([.nilFunc], 8) .leaf))) 46 ([.nilFunc], 8) (.node (.node (.node .leaf 48 ([.nilFunc], 8) .leaf) 49 ([.slice none 0 0], 24) (.node .leaf 51 ([.nilFunc], 8) .leaf)) 52 ([.nilFunc], 8) (.node (.node .leaf 53 ([.nilFunc], 8) .leaf) 55 ([.nilFunc], 8) (.node .leaf 56 ([.nilFunc], 8) .leaf)))) 57 ([.nilFunc], 8) (.node (.node (.node (.node .leaf 58 ([.nilFunc], 8) .leaf) 59 ([.nilFunc], 8) (.node .leaf 60 ([.nilFunc], 8) .leaf)) 61 ([.slice none 0 0], 24) (.node (.node .leaf 63 ([.nilFunc], 8) .leaf) 64 ([.pointer none], 8) (.node .leaf 65 ([.nilFunc], 8) .leaf))) 66 ([.int .i64 0, .int .i64 0], 16) (.node (.node (.node .leaf 67 ([.int .i64 0, .int .i64 0], 16) .leaf) 68 ([.nilFunc], 8) (.node .leaf 69 ([.nilFunc], 8) .leaf)) 70 ([.nilFunc], 8) (.node (.node .leaf 71 ([.nilFunc], 8) .leaf) 72 ([.slice none 0 0], 24) (.node .leaf 74 ([.nilFunc], 8) .leaf)))))) 75 ([.pointer none], 8) (.node (.node (.node (.node (.node (.node (.node .leaf 76 ([.nilFunc], 8) .leaf) 77 ([.int .i64 0, .int .i64 0, .string ByteArray.empty], 32) .leaf) 78 ([.int .i64 0, .int .i64 0, .string ByteArray.empty], 32) (.node .leaf 79 ([.nilFunc], 8) .leaf)) 80 ([.slice none 0 0], 24) (.node (.node .leaf 81 ([.slice none 0 0, .int .i64 0, .int .i64 0, .int .i64 0, .slice none 0 0], 72) .leaf) 82 ([.slice none 0 0, .int .i64 0, .int .i64 0, .int .i64 0, .slice none 0 0], 72) (.node .leaf 83 ([.nilFunc], 8) .leaf))) 84 ([.nilFunc], 8) (.node (.node (.node .leaf 85 ([.nilFunc], 8) .leaf) 86 ([.nilFunc], 8) (.node .leaf 87 ([.slice none 0 0], 24) .leaf)) 88 ([.bool false, .slice none 0 0, .slice none 0 0], 56) (.node (.node .leaf 89 ([.bool false, .slice none 0 0, .slice none 0 0], 56) .leaf) 90 ([.nilFunc], 8) (.node .leaf 91 ([.nilFunc], 8) .leaf)))) 92 ([.nilFunc], 8) (.node (.node (.node (.node .leaf 93 ([.nilFunc], 8) .leaf) 94 ([.nilFunc], 8) (.node .leaf 95 ([.string ByteArray.empty, .int .i64 0, .int .i64 0, .bool false, .slice none 0 0, .slice none 0 0, .string ByteArray.empty, .slice none 0 0], 128) .leaf)) 96 ([.string ByteArray.empty, .int .i64 0, .int .i64 0, .bool false, .slice none 0 0, .slice none 0 0, .string ByteArray.empty, .slice none 0 0], 128) (.node (.node .leaf 97 ([.map none], 8) .leaf) 99 ([.nilFunc], 8) (.node .leaf 100 ([.map none], 8) .leaf))) 101 ([.nilFunc], 8) (.node (.node (.node .leaf 102 ([.nilFunc], 8) .leaf) 103 ([.nilFunc], 8) (.node .leaf 104 ([.nilFunc], 8) .leaf)) 105 ([.nilFunc], 8) (.node (.node .leaf 106 ([.nilFunc], 8) .leaf) 107 ([.nilFunc], 8) (.node .leaf 109 ([.nilFunc], 8) .leaf))))) 110 ([.int .i64 0, .int .i64 0, .int .i64 0], 24) (.node (.node (.node (.node (.node .leaf 112 ([.nilFunc], 8) .leaf) 113 ([.nilFunc], 8) (.node .leaf 114 ([.int .i64 0, .string ByteArray.empty, .int .i64 0], 32) .leaf)) 115 ([.int .i64 0, .string ByteArray.empty, .int .i64 0], 32) (.node (.node .leaf 116 ([.nilFunc], 8) .leaf) 118 ([.nilFunc], 8) (.node .leaf 119 ([.nilFunc], 8) .leaf))) 120 ([.slice none 0 0], 24) (.node (.node (.node .leaf 121 ([.slice none 0 0, .int .i64 0, .int .i64 0, .slice none 0 0], 64) .leaf) 122 ([.slice none 0 0, .int .i64 0, .int .i64 0, .slice none 0 0], 64) (.node .leaf 123 ([.nilFunc], 8) .leaf)) 124 ([.slice none 0 0], 24) (.node (.node .leaf 126 ([.nilFunc], 8) .leaf) 127 ([.nilFunc], 8) (.node .leaf 129 ([.nilFunc], 8) .leaf)))) 130 ([.int .i64 0, .int .i64 0, .int .i64 0, .int .i64 0], 32) (.node (.node (.node (.node .leaf 131 ([.int .i64 0, .int .i64 0, .int .i64 0, .int .i64 0], 32) .leaf) 132 ([.nilFunc], 8) (.node .leaf 133 ([.nilFunc], 8) .leaf)) 134 ([.nilFunc], 8) (.node (.node .leaf 135 ([.int .i64 0, .int .i64 0, .string ByteArray.empty, .bool false], 40) .leaf) 136 ([.int .i64 0, .int .i64 0, .string ByteArray.empty, .bool false], 40) (.node .leaf 137 ([.nilFunc], 8) .leaf))) 138 ([.int .u32 0], 4) (.node (.node (.node .leaf 139 ([.pointer none], 8) .leaf) 140 ([.slice none 0 0], 24) (.node .leaf 141 ([.pointer none, .slice none 0 0], 32) .leaf)) 142 ([.pointer none, .slice none 0 0], 32) (.node (.node .leaf 143 ([.nilFunc], 8) .leaf) 144 ([.nilFunc], 8) (.node .leaf 145 ([.nilFunc], 8) .leaf))))))) 146 ([.nilFunc], 8) (.node (.node (.node (.node (.node (.node (.node (.node .leaf 147 ([.nilFunc], 8) .leaf) 148 ([.nilFunc], 8) .leaf) 149 ([.nilFunc], 8) (.node .leaf 150 ([.int .u64 0], 8) .leaf)) 151 ([.nilFunc], 8) (.node (.node .leaf 152 ([.nilFunc], 8) .leaf) 153 ([.nilFunc], 8) (.node .leaf 154 ([.nilFunc], 8) .leaf))) 155 ([.nilFunc], 8) (.node (.node (.node .leaf 156 ([.nilFunc], 8) .leaf) 157 ([.nilFunc], 8) (.node .leaf 158 ([.nilFunc], 8) .leaf)) 159 ([.nilFunc], 8) (.node (.node .leaf 160 ([.nilFunc], 8) .leaf) 161 ([.nilFunc], 8) (.node .leaf 162 ([.nilFunc], 8) .leaf)))) 163 ([.nilFunc], 8) (.node (.node (.node (.node .leaf 167 ([.nilFunc], 8) .leaf) 168 ([.nilFunc], 8) (.node .leaf 169 ([.pointer none], 8) .leaf)) 171 ([.nilFunc], 8) (.node (.node .leaf 172 ([.slice none 0 0], 24) .leaf) 173 ([.bool false, .slice none 0 0, .slice none 0 0], 56) (.node .leaf 174 ([.bool false, .slice none 0 0, .slice none 0 0], 56) .leaf))) 175 ([.nilFunc], 8) (.node (.node (.node .leaf 176 ([.nilFunc], 8) .leaf) 177 ([.nilFunc], 8) (.node .leaf 178 ([.nilFunc], 8) .leaf)) 179 ([.nilFunc], 8) (.node (.node .leaf 180 ([.nilFunc], 8) .leaf) 181 ([.nilFunc], 8) (.node .leaf 182 ([.nilFunc], 8) .leaf))))) 183 ([.nilFunc], 8) (.node (.node (.node (.node (.node .leaf 184 ([.nilFunc], 8) .leaf) 185 ([.nilFunc], 8) (.node .leaf 186 ([.nilFunc], 8) .leaf)) 190 ([.nilFunc], 8) (.node (.node .leaf 191 ([.nilFunc], 8) .leaf) 192 ([.nilFunc], 8) (.node .leaf 193 ([.pointer none], 8) .leaf))) 194 ([.nilFunc], 8) (.node (.node (.node .leaf 196 ([.nilFunc], 8) .leaf) 197 ([.nilFunc], 8) (.node .leaf 198 ([.nilFunc], 8) .leaf)) 200 ([.nilFunc], 8) (.node (.node .leaf 201 ([.nilFunc], 8) .leaf) 202 ([.nilFunc], 8) (.node .leaf 204 ([.nilFunc], 8) .leaf)))) 205 ([.nilFunc], 8) (.node (.node (.node (.node .leaf 206 ([.nilFunc], 8) .leaf) 207 ([.nilFunc], 8) (.node .leaf 208 ([.nilFunc], 8) .leaf)) 209 ([.nilFunc], 8) (.node (.node .leaf 210 ([.nilFunc], 8) .leaf) 211 ([.nilFunc], 8) (.node .leaf 212 ([.int .u64 0], 8) .leaf))) 213 ([.nilFunc], 8) (.node (.node (.node .leaf 215 ([.nilFunc], 8) .leaf) 216 ([.nilFunc], 8) (.node .leaf 217 ([.nilFunc], 8) .leaf)) 219 ([.nilFunc], 8) (.node (.node .leaf 220 ([.nilFunc], 8) .leaf) 221 ([.nilFunc], 8) (.node .leaf 223 ([.nilFunc], 8) .leaf)))))) 224 ([.nilFunc], 8) (.node (.node (.node (.node (.node (.node (.node .leaf 225 ([.nilFunc], 8) .leaf) 226 ([.nilFunc], 8) .leaf) 227 ([.nilFunc], 8) (.node .leaf 228 ([.nilFunc], 8) .leaf)) 229 ([.map none], 8) (.node (.node .leaf 230 ([.nilFunc], 8) .leaf) 231 ([.nilFunc], 8) (.node .leaf 232 ([.nilFunc], 8) .leaf))) 233 ([.nilFunc], 8) (.node (.node (.node .leaf 234 ([.nilFunc], 8) .leaf) 235 ([.int .i64 0], 8) (.node .leaf 237 ([.nilFunc], 8) .leaf)) 238 ([.nilFunc], 8) (.node (.node .leaf 239 ([.nilFunc], 8) .leaf) 240 ([.nilFunc], 8) (.node .leaf 241 ([.nilFunc], 8) .leaf)))) 242 ([.nilFunc], 8) (.node (.node (.node (.node .leaf 243 ([.nilFunc], 8) .leaf) 245 ([.nilFunc], 8) (.node .leaf 246 ([.nilFunc], 8) .leaf)) 247 ([.nilFunc], 8) (.node (.node .leaf 248 ([.nilFunc], 8) .leaf) 249 ([.nilFunc], 8) (.node .leaf 250 ([.nilFunc], 8) .leaf))) 252 ([.nilFunc], 8) (.node (.node (.node .leaf 253 ([.nilFunc], 8) .leaf) 254 ([.nilFunc], 8) (.node .leaf 255 ([.nilFunc], 8) .leaf)) 256 ([.pointer none], 8) (.node (.node .leaf 257 ([.nilFunc], 8) .leaf) 258 ([.nilFunc], 8) (.node .leaf 259 ([.nilFunc], 8) .leaf))))) 260 ([.nilFunc], 8) (.node (.node (.node (.node (.node .leaf 261 ([.int .u64 0], 8) .leaf) 262 ([.nilFunc], 8) (.node .leaf 263 ([.nilFunc], 8) .leaf)) 264 ([.nilFunc], 8) (.node (.node .leaf 265 ([.pointer none], 8) .leaf) 266 ([.nilFunc], 8) (.node .leaf 268 ([.nilFunc], 8) .leaf))) 270 ([.int .u8 0, .int .u8 0], 2) (.node (.node (.node .leaf 271 ([.int .u8 0, .int .u8 0], 2) .leaf) 272 ([.int .u8 0, .int .u8 0, .int .u8 0, .int .u8 0, .int .u8 0, .int .u8 0, .int .u8 0, .int .u8 0, .int .u8 0, .int .u8 0, .int .u8 0, .int .u8 0, .int .u8 0, .int .u8 0, .int .u8 0, .int .u8 0, .int .u8 0, .int .u8 0, .int .u8 0, .int .u8 0, .int .u8 0, .int .u8 0, .int .u8 0, .int .u8 0, .int .u8 0, .int .u8 0, .int .u8 0, .int .u8 0, .int .u8 0, .int .u8 0, .int .u8 0, .int .u8 0], 32) (.node .leaf 273 ([.nilFunc], 8) .leaf)) 274 ([.int .u8 0, .int .u8 0, .int .u8 0, .int .u8 0, .int .u8 0, .int .u8 0, .int .u8 0, .int .u8 0, .int .u8 0, .int .u8 0, .int .u8 0, .int .u8 0, .int .u8 0, .int .u8 0, .int .u8 0, .int .u8 0, .int .u8 0, .int .u8 0, .int .u8 0, .int .u8 0, .int .u8 0, .int .u8 0, .int .u8 0, .int .u8 0, .int .u8 0, .int .u8 0, .int .u8 0, .int .u8 0, .int .u8 0, .int .u8 0, .int .u8 0, .int .u8 0], 32) (.node (.node .leaf 275 ([.int .u8 0, .int .u8 0, .int .u8 0, .int .u8 0, .int .u8 0, .int .u8 0, .int .u8 0, .int .u8 0, .int .u8 0, .int .u8 0, .int .u8 0, .int .u8 0, .int .u8 0, .int .u8 0, .int .u8 0, .int .u8 0, .int .u8 0, .int .u8 0, .int .u8 0, .int .u8 0, .int .u8 0, .int .u8 0, .int .u8 0, .int .u8 0], 24) .leaf) 276 ([.nilFunc], 8) (.node .leaf 278 ([.nilFunc], 8) .leaf)))) 279 ([.pointer none], 8) (.node (.node (.node (.node .leaf 281 ([.nilFunc], 8) .leaf) 282 ([.int .u64 0, .int .u64 0, .int .u64 0, .int .u64 0, .int .u64 0, .int .u64 0, .int .u64 0, .int .u64 0, .int .u64 0, .int .u64 0, .int .u64 0, .int .u64 0, .int .u64 0, .int .u64 0, .int .u64 0, .int .u64 0, .int .u64 0, .int .u64 0, .int .u64 0, .int .u64 0], 160) (.node .leaf 284 ([.int .u8 0, .int .u8 0, .int .u8 0, .int .u8 0, .int .u8 0, .int .u8 0, .int .u8 0, .int .u8 0, .int .u8 0, .int .u8 0, .int .u8 0, .int .u8 0, .int .u8 0, .int .u8 0, .int .u8 0, .int .u8 0, .int .u8 0, .int .u8 0, .int .u8 0, .int .u8 0, .int .u8 0, .int .u8 0, .int .u8 0, .int .u8 0, .int .u8 0, .int .u8 0, .int .u8 0, .int .u8 0, .int .u8 0, .int .u8 0, .int .u8 0, .int .u8 0, .int .u8 0, .int .u8 0, .int .u8 0, .int .u8 0, .int .u8 0, .int .u8 0, .int .u8 0, .int .u8 0, .int .u8 0, .int .u8 0, .int .u8 0, .int .u8 0, .int .u8 0, .int .u8 0, .int .u8 0, .int .u8 0, .int .u8 0, .int .u8 0, .int .u8 0, .int .u8 0, .int .u8 0, .int .u8 0, .int .u8 0, .int .u8 0, .int .u8 0, .int .u8 0, .int .u8 0, .int .u8 0, .int .u8 0, .int .u8 0, .int .u8 0, .int .u8 0], 64) .leaf)) 285 ([.pointer none, .pointer none, .pointer none, .string ByteArray.empty], 40) (.node (.node .leaf 286 ([.pointer none, .pointer none, .pointer none, .string ByteArray.empty], 40) .leaf) 287 ([], 0) (.node .leaf 288 ([], 0) .leaf))) 289 ([], 0) (.node (.node (.node .leaf 290 ([.int .u8 0], 1) .leaf) 291 ([.int .u8 0], 1) (.node .leaf 292 ([.nilFunc], 8) .leaf)) 293 ([.int .i32 0], 4) (.node (.node .leaf 294 ([.int .i32 0], 4) .leaf) 295 ([.int .u64 0, .int .u64 0, .int .u32 0, .int .u8 0, .int .u8 0, .int .u8 0, .int .u8 0, .nilFunc, .pointer none, .int .i32 0, .int .i32 0], 48) (.node .leaf 296 ([.int .u64 0, .int .u64 0, .int .u32 0, .int .u8 0, .int .u8 0, .int .u8 0, .int .u8 0, .nilFunc, .pointer none, .int .i32 0, .int .i32 0], 48) .leaf))))))))
set_option maxRecDepth 100000 in
def fnB : BT Unit := (.node (.node (.node (.node (.node (.node (.node (.node (.node .leaf 3 () .leaf) 4 () .leaf) 5 () (.node .leaf 6 () .leaf)) 7 () (.node (.node (.node .leaf 8 () .leaf) 9 () .leaf) 10 () (.node .leaf 11 () .leaf))) 12 () (.node (.node (.node (.node .leaf 13 () .leaf) 14 () .leaf) 15 () (.node .leaf 16 () .leaf)) 17 () (.node (.node .leaf 18 () .leaf) 19 () (.node .leaf 20 () .leaf)))) 21 () (.node (.node (.node (.node (.node .leaf 22 () .leaf) 23 () .leaf) 24 () (.node .leaf 25 () .leaf)) 26 () (.node (.node .leaf 27 () .leaf) 28 () (.node .leaf 29 () .leaf))) 30 () (.node (.node (.node (.node .leaf 31 () .leaf) 32 () .leaf) 33 () (.node .leaf 34 () .leaf)) 35 () (.node (.node .leaf 36 () .leaf) 37 () (.node .leaf 38 () .leaf))))) 39 () (.node (.node (.node (.node (.node (.node .leaf 40 () .leaf) 41 () .leaf) 42 () (.node .leaf 43 () .leaf)) 44 () (.node (.node (.node .leaf 45 () .leaf) 46 () .leaf) 47 () (.node .leaf 48 () .leaf))) 49 () (.node (.node (.node (.node .leaf 50 () .leaf) 51 () .leaf) 52 () (.node .leaf 53 () .leaf)) 54 () (.node (.node .leaf 55 () .leaf) 56 () (.node .leaf 57 () .leaf)))) 58 () (.node (.node (.node (.node (.node .leaf 59 () .leaf) 60 () .leaf) 61 () (.node .leaf 62 () .leaf)) 63 () (.node (.node .leaf 64 () .leaf) 65 () (.node .leaf 66 () .leaf))) 67 () (.node (.node (.node (.node .leaf 68 () .leaf) 69 () .leaf) 70 () (.node .leaf 71 () .leaf)) 72 () (.node (.node .leaf 73 () .leaf) 74 () (.node .leaf 75 () .leaf)))))) 76 () (.node (.node (.node (.node (.node (.node (.node .leaf 77 () .leaf) 78 () .leaf) 79 () (.node .leaf 80 () .leaf)) 81 () (.node (.node (.node .leaf 82 () .leaf) 83 () .leaf) 84 () (.node .leaf 85 () .leaf))) 86 () (.node (.node (.node (.node .leaf 87 () .leaf) 88 () .leaf) 89 () (.node .leaf 90 () .leaf)) 91 () (.node (.node .leaf 92 () .leaf) 93 () (.node .leaf 94 () .leaf)))) 95 () (.node (.node (.node (.node (.node .leaf 96 () .leaf) 97 () .leaf) 98 () (.node .leaf 99 () .leaf)) 100 () (.node (.node .leaf 101 () .leaf) 102 () (.node .leaf 103 () .leaf))) 104 () (.node (.node (.node (.node .leaf 105 () .leaf) 106 () .leaf) 107 () (.node .leaf 108 () .leaf)) 109 () (.node (.node .leaf 110 () .leaf) 111 () (.node .leaf 112 () .leaf))))) 113 () (.node (.node (.node (.node (.node (.node .leaf 114 () .leaf) 115 () .leaf) 116 () (.node .leaf 117 () .leaf)) 118 () (.node (.node (.node .leaf 119 () .leaf) 120 () .leaf) 121 () (.node .leaf 122 () .leaf))) 123 () (.node (.node (.node (.node .leaf 124 () .leaf) 125 () .leaf) 126 () (.node .leaf 127 () .leaf)) 128 () (.node (.node .leaf 129 () .leaf) 130 () (.node .leaf 131 () .leaf)))) 132 () (.node (.node (.node (.node (.node .leaf 133 () .leaf) 134 () .leaf) 135 () (.node .leaf 136 () .leaf)) 137 () (.node (.node .leaf 138 () .leaf) 139 () (.node .leaf 140 () .leaf))) 141 () (.node (.node (.node (.node .leaf 142 () .leaf) 143 () .leaf) 144 () (.node .leaf 145 () .leaf)) 146 () (.node (.node .leaf 147 () .leaf) 148 () (.node .leaf 149 () .leaf))))))) 150 () (.node (.node (.node (.node (.node (.node (.node (.node .leaf 151 () .leaf) 152 () .leaf) 153 () (.node .leaf 154 () .leaf)) 155 () (.node (.node (.node .leaf 156 () .leaf) 157 () .leaf) 158 () (.node .leaf 159 () .leaf))) 160 () (.node (.node (.node (.node .leaf 161 () .leaf) 162 () .leaf) 163 () (.node .leaf 164 () .leaf)) 165 () (.node (.node .leaf 166 () .leaf) 167 () (.node .leaf 168 () .leaf)))) 169 () (.node (.node (.node (.node (.node .leaf 170 () .leaf) 171 () .leaf) 172 () (.node .leaf 173 () .leaf)) 174 () (.node (.node .leaf 175 () .leaf) 176 () (.node .leaf 177 () .leaf))) 178 () (.node (.node (.node (.node .leaf 179 () .leaf) 180 () .leaf) 181 () (.node .leaf 182 () .leaf)) 183 () (.node (.node .leaf 184 () .leaf) 185 () (.node .leaf 186 () .leaf))))) 187 () (.node (.node (.node (.node (.node (.node .leaf 188 () .leaf) 189 () .leaf) 190 () (.node .leaf 191 () .leaf)) 192 () (.node (.node (.node .leaf 193 () .leaf) 194 () .leaf) 195 () (.node .leaf 196 () .leaf))) 197 () (.node (.node (.node (.node .leaf 198 () .leaf) 199 () .leaf) 200 () (.node .leaf 201 () .leaf)) 202 () (.node (.node .leaf 203 () .leaf) 204 () (.node .leaf 205 () .leaf)))) 206 () (.node (.node (.node (.node (.node .leaf 207 () .leaf) 208 () .leaf) 209 () (.node .leaf 210 () .leaf)) 211 () (.node (.node .leaf 212 () .leaf) 213 () (.node .leaf 214 () .leaf))) 215 () (.node (.node (.node (.node .leaf 216 () .leaf) 217 () .leaf) 218 () (.node .leaf 219 () .leaf)) 220 () (.node (.node .leaf 221 () .leaf) 222 () (.node .leaf 223 () .leaf)))))) 224 () (.node (.node (.node (.node (.node (.node (.node .leaf 225 () .leaf) 226 () .leaf) 227 () (.node .leaf 228 () .leaf)) 229 () (.node (.node (.node .leaf 230 () .leaf) 231 () .leaf) 232 () (.node .leaf 233 () .leaf))) 234 () (.node (.node (.node (.node .leaf 235 () .leaf) 236 () .leaf) 237 () (.node .leaf 238 () .leaf)) 239 () (.node (.node .leaf 240 () .leaf) 241 () (.node .leaf 242 () .leaf)))) 243 () (.node (.node (.node (.node (.node .leaf 244 () .leaf) 245 () .leaf) 246 () (.node .leaf 247 () .leaf)) 248 () (.node (.node .leaf 249 () .leaf) 250 () (.node .leaf 251 () .leaf))) 252 () (.node (.node (.node (.node .leaf 253 () .leaf) 254 () .leaf) 255 () (.node .leaf 256 () .leaf)) 257 () (.node (.node .leaf 258 () .leaf) 259 () (.node .leaf 261 () .leaf))))) 262 () (.node (.node (.node (.node (.node (.node .leaf 263 () .leaf) 264 () .leaf) 265 () (.node .leaf 266 () .leaf)) 267 () (.node (.node .leaf 268 () .leaf) 269 () (.node .leaf 270 () .leaf))) 271 () (.node (.node (.node (.node .leaf 272 () .leaf) 273 () .leaf) 275 () (.node .leaf 276 () .leaf)) 277 () (.node (.node .leaf 278 () .leaf) 279 () (.node .leaf 280 () .leaf)))) 281 () (.node (.node (.node (.node (.node .leaf 282 () .leaf) 283 () .leaf) 284 () (.node .leaf 286 () .leaf)) 287 () (.node (.node .leaf 288 () .leaf) 289 () (.node .leaf 290 () .leaf))) 291 () (.node (.node (.node (.node .leaf 292 () .leaf) 293 () .leaf) 294 () (.node .leaf 295 () .leaf)) 296 () (.node (.node .leaf 297 () .leaf) 298 () (.node .leaf 299 () .leaf))))))))
def BT.All {α : Type} (p : Nat × α → Prop) : BT α → Prop
  | .leaf => True
  | .node l k x r => l.All p ∧ p (k, x) ∧ r.All p
theorem lf {α : Type} {p : Nat × α → Prop} : BT.All p .leaf := trivial
theorem nd {α : Type} {p : Nat × α → Prop} {l r : BT α} {k : Nat} {x : α} (a : l.All p) (b : p (k, x)) (c : r.All p) : BT.All p (.node l k x r) := ⟨a, b, c⟩
theorem BT.all_mem {α : Type} {p : Nat × α → Prop} {y : Nat × α} : ∀ {b : BT α}, b.All p → y ∈ b.toL → p y
  | .leaf, _, h => by cases h
  | .node l k x r, ⟨h1, h2, h3⟩, h => by
    rw [BT.toL] at h
    rcases List.mem_append.1 h with h | h
    · exact BT.all_mem h1 h
    · rcases List.mem_cons.1 h with rfl | h
      · exact h2
      · exact BT.all_mem h3 h
noncomputable def T : Tab := { prog := Tryz.prog, und := look undB, inf := look infB, fn := fun f => (look fnB f).isSome, room := False }
set_option maxRecDepth 100000 in
theorem undOk : undB.All fun x => Tryz.prog.underlying x.1 = some x.2 := (nd (nd (nd (nd (nd (nd (nd (nd (nd lf Tryz.underlying1 lf) Tryz.underlying2 lf) Tryz.underlying3 (nd lf Tryz.underlying4 lf)) Tryz.underlying5 (nd (nd lf Tryz.underlying6 lf) Tryz.underlying7 (nd lf Tryz.underlying8 lf))) Tryz.underlying9 (nd (nd (nd lf Tryz.underlying10 lf) Tryz.underlying11 (nd lf Tryz.underlying12 lf)) Tryz.underlying13 (nd (nd lf Tryz.underlying14 lf) Tryz.underlying15 (nd lf Tryz.underlying16 lf)))) Tryz.underlying17 (nd (nd (nd (nd lf Tryz.underlying18 lf) Tryz.underlying19 (nd lf Tryz.underlying21 lf)) Tryz.underlying22 (nd (nd lf Tryz.underlying23 lf) Tryz.underlying24 (nd lf Tryz.underlying25 lf))) Tryz.underlying26 (nd (nd (nd lf Tryz.underlying27 lf) Tryz.underlying28 (nd lf Tryz.underlying29 lf)) Tryz.underlying31 (nd (nd lf Tryz.underlying32 lf) Tryz.underlying33 (nd lf Tryz.underlying34 lf))))) Tryz.underlying36 (nd (nd (nd (nd (nd (nd lf Tryz.underlying37 lf) Tryz.underlying38 lf) Tryz.underlying40 (nd lf Tryz.underlying41 lf)) Tryz.underlying42 (nd (nd lf Tryz.underlying43 lf) Tryz.underlying44 (nd lf Tryz.underlying46 lf))) Tryz.underlying48 (nd (nd (nd lf Tryz.underlying49 lf) Tryz.underlying51 (nd lf Tryz.underlying52 lf)) Tryz.underlying53 (nd (nd lf Tryz.underlying55 lf) Tryz.underlying56 (nd lf Tryz.underlying57 lf)))) Tryz.underlying58 (nd (nd (nd (nd lf Tryz.underlying59 lf) Tryz.underlying60 (nd lf Tryz.underlying61 lf)) Tryz.underlying63 (nd (nd lf Tryz.underlying64 lf) Tryz.underlying65 (nd lf Tryz.underlying66 lf))) Tryz.underlying67 (nd (nd (nd lf Tryz.underlying68 lf) Tryz.underlying69 (nd lf Tryz.underlying70 lf)) Tryz.underlying71 (nd (nd lf Tryz.underlying72 lf) Tryz.underlying74 (nd lf Tryz.underlying75 lf)))))) Tryz.underlying76 (nd (nd (nd (nd (nd (nd (nd lf Tryz.underlying77 lf) Tryz.underlying78 lf) Tryz.underlying79 (nd lf Tryz.underlying80 lf)) Tryz.underlying81 (nd (nd lf Tryz.underlying82 lf) Tryz.underlying83 (nd lf Tryz.underlying84 lf))) Tryz.underlying85 (nd (nd (nd lf Tryz.underlying86 lf) Tryz.underlying87 (nd lf Tryz.underlying88 lf)) Tryz.underlying89 (nd (nd lf Tryz.underlying90 lf) Tryz.underlying91 (nd lf Tryz.underlying92 lf)))) Tryz.underlying93 (nd (nd (nd (nd lf Tryz.underlying94 lf) Tryz.underlying95 (nd lf Tryz.underlying96 lf)) Tryz.underlying97 (nd (nd lf Tryz.underlying99 lf) Tryz.underlying100 (nd lf Tryz.underlying101 lf))) Tryz.underlying102 (nd (nd (nd lf Tryz.underlying103 lf) Tryz.underlying104 (nd lf Tryz.underlying105 lf)) Tryz.underlying106 (nd (nd lf Tryz.underlying107 lf) Tryz.underlying109 (nd lf Tryz.underlying110 lf))))) Tryz.underlying112 (nd (nd (nd (nd (nd (nd lf Tryz.underlying113 lf) Tryz.underlying114 lf) Tryz.underlying115 (nd lf Tryz.underlying116 lf)) Tryz.underlying118 (nd (nd lf Tryz.underlying119 lf) Tryz.underlying120 (nd lf Tryz.underlying121 lf))) Tryz.underlying122 (nd (nd (nd lf Tryz.underlying123 lf) Tryz.underlying124 (nd lf Tryz.underlying126 lf)) Tryz.underlying127 (nd (nd lf Tryz.underlying129 lf) Tryz.underlying130 (nd lf Tryz.underlying131 lf)))) Tryz.underlying132 (nd (nd (nd (nd lf Tryz.underlying133 lf) Tryz.underlying134 (nd lf Tryz.underlying135 lf)) Tryz.underlying136 (nd (nd lf Tryz.underlying137 lf) Tryz.underlying138 (nd lf Tryz.underlying139 lf))) Tryz.underlying140 (nd (nd (nd lf Tryz.underlying141 lf) Tryz.underlying142 (nd lf Tryz.underlying143 lf)) Tryz.underlying144 (nd (nd lf Tryz.underlying145 lf) Tryz.underlying146 (nd lf Tryz.underlying147 lf))))))) Tryz.underlying148 (nd (nd (nd (nd (nd (nd (nd (nd lf Tryz.underlying149 lf) Tryz.underlying150 lf) Tryz.underlying151 (nd lf Tryz.underlying152 lf)) Tryz.underlying153 (nd (nd lf Tryz.underlying154 lf) Tryz.underlying155 (nd lf Tryz.underlying156 lf))) Tryz.underlying157 (nd (nd (nd lf Tryz.underlying158 lf) Tryz.underlying159 (nd lf Tryz.underlying160 lf)) Tryz.underlying161 (nd (nd lf Tryz.underlying162 lf) Tryz.underlying163 (nd lf Tryz.underlying164 lf)))) Tryz.underlying165 (nd (nd (nd (nd lf Tryz.underlying167 lf) Tryz.underlying168 (nd lf Tryz.underlying169 lf)) Tryz.underlying171 (nd (nd lf Tryz.underlying172 lf) Tryz.underlying173 (nd lf Tryz.underlying174 lf))) Tryz.underlying175 (nd (nd (nd lf Tryz.underlying176 lf) Tryz.underlying177 (nd lf Tryz.underlying178 lf)) Tryz.underlying179 (nd (nd lf Tryz.underlying180 lf) Tryz.underlying181 (nd lf Tryz.underlying182 lf))))) Tryz.underlying183 (nd (nd (nd (nd (nd (nd lf Tryz.underlying184 lf) Tryz.underlying185 lf) Tryz.underlying186 (nd lf Tryz.underlying190 lf)) Tryz.underlying191 (nd (nd lf Tryz.underlying192 lf) Tryz.underlying193 (nd lf Tryz.underlying194 lf))) Tryz.underlying196 (nd (nd (nd lf Tryz.underlying197 lf) Tryz.underlying198 (nd lf Tryz.underlying200 lf)) Tryz.underlying201 (nd (nd lf Tryz.underlying202 lf) Tryz.underlying204 (nd lf Tryz.underlying205 lf)))) Tryz.underlying206 (nd (nd (nd (nd lf Tryz.underlying207 lf) Tryz.underlying208 (nd lf Tryz.underlying209 lf)) Tryz.underlying210 (nd (nd lf Tryz.underlying211 lf) Tryz.underlying212 (nd lf Tryz.underlying213 lf))) Tryz.underlying215 (nd (nd (nd lf Tryz.underlying216 lf) Tryz.underlying217 (nd lf Tryz.underlying219 lf)) Tryz.underlying220 (nd (nd lf Tryz.underlying221 lf) Tryz.underlying223 (nd lf Tryz.underlying224 lf)))))) Tryz.underlying225 (nd (nd (nd (nd (nd (nd (nd lf Tryz.underlying226 lf) Tryz.underlying227 lf) Tryz.underlying228 (nd lf Tryz.underlying229 lf)) Tryz.underlying230 (nd (nd lf Tryz.underlying231 lf) Tryz.underlying232 (nd lf Tryz.underlying233 lf))) Tryz.underlying234 (nd (nd (nd lf Tryz.underlying235 lf) Tryz.underlying237 (nd lf Tryz.underlying238 lf)) Tryz.underlying239 (nd (nd lf Tryz.underlying240 lf) Tryz.underlying241 (nd lf Tryz.underlying242 lf)))) Tryz.underlying243 (nd (nd (nd (nd lf Tryz.underlying245 lf) Tryz.underlying246 (nd lf Tryz.underlying247 lf)) Tryz.underlying248 (nd (nd lf Tryz.underlying249 lf) Tryz.underlying250 (nd lf Tryz.underlying252 lf))) Tryz.underlying253 (nd (nd (nd lf Tryz.underlying254 lf) Tryz.underlying255 (nd lf Tryz.underlying257 lf)) Tryz.underlying258 (nd (nd lf Tryz.underlying259 lf) Tryz.underlying260 (nd lf Tryz.underlying261 lf))))) Tryz.underlying262 (nd (nd (nd (nd (nd lf Tryz.underlying263 lf) Tryz.underlying264 (nd lf Tryz.underlying265 lf)) Tryz.underlying266 (nd (nd lf Tryz.underlying268 lf) Tryz.underlying269 (nd lf Tryz.underlying270 lf))) Tryz.underlying271 (nd (nd (nd lf Tryz.underlying272 lf) Tryz.underlying273 (nd lf Tryz.underlying274 lf)) Tryz.underlying275 (nd (nd lf Tryz.underlying276 lf) Tryz.underlying278 (nd lf Tryz.underlying279 lf)))) Tryz.underlying281 (nd (nd (nd (nd lf Tryz.underlying282 lf) Tryz.underlying283 (nd lf Tryz.underlying284 lf)) Tryz.underlying285 (nd (nd lf Tryz.underlying286 lf) Tryz.underlying287 (nd lf Tryz.underlying288 lf))) Tryz.underlying289 (nd (nd (nd lf Tryz.underlying290 lf) Tryz.underlying291 (nd lf Tryz.underlying292 lf)) Tryz.underlying293 (nd (nd lf Tryz.underlying294 lf) Tryz.underlying295 (nd lf Tryz.underlying296 lf))))))))
set_option maxRecDepth 100000 in
theorem infOk : infB.All fun x => ∃ i v, Tryz.prog.info? x.1 = some i ∧ i.zero = some v ∧ v.cells = x.2.1.toArray ∧ i.size = x.2.1.length ∧ i.bytes = x.2.2 := (nd (nd (nd (nd (nd (nd (nd (nd (nd lf ⟨Tryz.t1, _, by kernel_rfl, rfl, rfl, rfl, rfl⟩ lf) ⟨Tryz.t2, _, by kernel_rfl, rfl, rfl, rfl, rfl⟩ lf) ⟨Tryz.t3, _, by kernel_rfl, rfl, rfl, rfl, rfl⟩ (nd lf ⟨Tryz.t4, _, by kernel_rfl, rfl, rfl, rfl, rfl⟩ lf)) ⟨Tryz.t5, _, by kernel_rfl, rfl, rfl, rfl, rfl⟩ (nd (nd lf ⟨Tryz.t6, _, by kernel_rfl, rfl, rfl, rfl, rfl⟩ lf) ⟨Tryz.t7, _, by kernel_rfl, rfl, rfl, rfl, rfl⟩ (nd lf ⟨Tryz.t8, _, by kernel_rfl, rfl, rfl, rfl, rfl⟩ lf))) ⟨Tryz.t9, _, by kernel_rfl, rfl, rfl, rfl, rfl⟩ (nd (nd (nd lf ⟨Tryz.t10, _, by kernel_rfl, rfl, rfl, rfl, rfl⟩ lf) ⟨Tryz.t11, _, by kernel_rfl, rfl, rfl, rfl, rfl⟩ (nd lf ⟨Tryz.t12, _, by kernel_rfl, rfl, rfl, rfl, rfl⟩ lf)) ⟨Tryz.t13, _, by kernel_rfl, rfl, rfl, rfl, rfl⟩ (nd (nd lf ⟨Tryz.t14, _, by kernel_rfl, rfl, rfl, rfl, rfl⟩ lf) ⟨Tryz.t15, _, by kernel_rfl, rfl, rfl, rfl, rfl⟩ (nd lf ⟨Tryz.t16, _, by kernel_rfl, rfl, rfl, rfl, rfl⟩ lf)))) ⟨Tryz.t17, _, by kernel_rfl, rfl, rfl, rfl, rfl⟩ (nd (nd (nd (nd lf ⟨Tryz.t18, _, by kernel_rfl, rfl, rfl, rfl, rfl⟩ lf) ⟨Tryz.t19, _, by kernel_rfl, rfl, rfl, rfl, rfl⟩ (nd lf ⟨Tryz.t21, _, by kernel_rfl, rfl, rfl, rfl, rfl⟩ lf)) ⟨Tryz.t22, _, by kernel_rfl, rfl, rfl, rfl, rfl⟩ (nd (nd lf ⟨Tryz.t23, _, by kernel_rfl, rfl, rfl, rfl, rfl⟩ lf) ⟨Tryz.t24, _, by kernel_rfl, rfl, rfl, rfl, rfl⟩ (nd lf ⟨Tryz.t25, _, by kernel_rfl, rfl, rfl, rfl, rfl⟩ lf))) ⟨Tryz.t26, _, by kernel_rfl, rfl, rfl, rfl, rfl⟩ (nd (nd (nd lf ⟨Tryz.t27, _, by kernel_rfl, rfl, rfl, rfl, rfl⟩ lf) ⟨Tryz.t28, _, by kernel_rfl, rfl, rfl, rfl, rfl⟩ (nd lf ⟨Tryz.t29, _, by kernel_rfl, rfl, rfl, rfl, rfl⟩ lf)) ⟨Tryz.t31, _, by kernel_rfl, rfl, rfl, rfl, rfl⟩ (nd (nd lf ⟨Tryz.t32, _, by kernel_rfl, rfl, rfl, rfl, rfl⟩ lf) ⟨Tryz.t33, _, by kernel_rfl, rfl, rfl, rfl, rfl⟩ (nd lf ⟨Tryz.t34, _, by kernel_rfl, rfl, rfl, rfl, rfl⟩ lf))))) ⟨Tryz.t36, _, by kernel_rfl, rfl, rfl, rfl, rfl⟩ (nd (nd (nd (nd (nd lf ⟨Tryz.t37, _, by kernel_rfl, rfl, rfl, rfl, rfl⟩ lf) ⟨Tryz.t38, _, by kernel_rfl, rfl, rfl, rfl, rfl⟩ (nd lf ⟨Tryz.t40, _, by kernel_rfl, rfl, rfl, rfl, rfl⟩ lf)) ⟨Tryz.t41, _, by kernel_rfl, rfl, rfl, rfl, rfl⟩ (nd (nd lf ⟨Tryz.t42, _, by kernel_rfl, rfl, rfl, rfl, rfl⟩ lf) ⟨Tryz.t43, _, by kernel_rfl, rfl, rfl, rfl, rfl⟩ (nd lf ⟨Tryz.t44, _, by kernel_rfl, rfl, rfl, rfl, rfl⟩ lf))) ⟨Tryz.t46, _, by kernel_rfl, rfl, rfl, rfl, rfl⟩ (nd (nd (nd lf ⟨Tryz.t48, _, by kernel_rfl, rfl, rfl, rfl, rfl⟩ lf) ⟨Tryz.t49, _, by kernel_rfl, rfl, rfl, rfl, rfl⟩ (nd lf ⟨Tryz.t51, _, by kernel_rfl, rfl, rfl, rfl, rfl⟩ lf)) ⟨Tryz.t52, _, by kernel_rfl, rfl, rfl, rfl, rfl⟩ (nd (nd lf ⟨Tryz.t53, _, by kernel_rfl, rfl, rfl, rfl, rfl⟩ lf) ⟨Tryz.t55, _, by kernel_rfl, rfl, rfl, rfl, rfl⟩ (nd lf ⟨Tryz.t56, _, by kernel_rfl, rfl, rfl, rfl, rfl⟩ lf)))) ⟨Tryz.t57, _, by kernel_rfl, rfl, rfl, rfl, rfl⟩ (nd (nd (nd (nd lf ⟨Tryz.t58, _, by kernel_rfl, rfl, rfl, rfl, rfl⟩ lf) ⟨Tryz.t59, _, by kernel_rfl, rfl, rfl, rfl, rfl⟩ (nd lf ⟨Tryz.t60, _, by kernel_rfl, rfl, rfl, rfl, rfl⟩ lf)) ⟨Tryz.t61, _, by kernel_rfl, rfl, rfl, rfl, rfl⟩ (nd (nd lf ⟨Tryz.t63, _, by kernel_rfl, rfl, rfl, rfl, rfl⟩ lf) ⟨Tryz.t64, _, by kernel_rfl, rfl, rfl, rfl, rfl⟩ (nd lf ⟨Tryz.t65, _, by kernel_rfl, rfl, rfl, rfl, rfl⟩ lf))) ⟨Tryz.t66, _, by kernel_rfl, rfl, rfl, rfl, rfl⟩ (nd (nd (nd lf ⟨Tryz.t67, _, by kernel_rfl, rfl, rfl, rfl, rfl⟩ lf) ⟨Tryz.t68, _, by kernel_rfl, rfl, rfl, rfl, rfl⟩ (nd lf ⟨Tryz.t69, _, by kernel_rfl, rfl, rfl, rfl, rfl⟩ lf)) ⟨Tryz.t70, _, by kernel_rfl, rfl, rfl, rfl, rfl⟩ (nd (nd lf ⟨Tryz.t71, _, by kernel_rfl, rfl, rfl, rfl, rfl⟩ lf) ⟨Tryz.t72, _, by kernel_rfl, rfl, rfl, rfl, rfl⟩ (nd lf ⟨Tryz.t74, _, by kernel_rfl, rfl, rfl, rfl, rfl⟩ lf)))))) ⟨Tryz.t75, _, by kernel_rfl, rfl, rfl, rfl, rfl⟩ (nd (nd (nd (nd (nd (nd (nd lf ⟨Tryz.t76, _, by kernel_rfl, rfl, rfl, rfl, rfl⟩ lf) ⟨Tryz.t77, _, by kernel_rfl, rfl, rfl, rfl, rfl⟩ lf) ⟨Tryz.t78, _, by kernel_rfl, rfl, rfl, rfl, rfl⟩ (nd lf ⟨Tryz.t79, _, by kernel_rfl, rfl, rfl, rfl, rfl⟩ lf)) ⟨Tryz.t80, _, by kernel_rfl, rfl, rfl, rfl, rfl⟩ (nd (nd lf ⟨Tryz.t81, _, by kernel_rfl, rfl, rfl, rfl, rfl⟩ lf) ⟨Tryz.t82, _, by kernel_rfl, rfl, rfl, rfl, rfl⟩ (nd lf ⟨Tryz.t83, _, by kernel_rfl, rfl, rfl, rfl, rfl⟩ lf))) ⟨Tryz.t84, _, by kernel_rfl, rfl, rfl, rfl, rfl⟩ (nd (nd (nd lf ⟨Tryz.t85, _, by kernel_rfl, rfl, rfl, rfl, rfl⟩ lf) ⟨Tryz.t86, _, by kernel_rfl, rfl, rfl, rfl, rfl⟩ (nd lf ⟨Tryz.t87, _, by kernel_rfl, rfl, rfl, rfl, rfl⟩ lf)) ⟨Tryz.t88, _, by kernel_rfl, rfl, rfl, rfl, rfl⟩ (nd (nd lf ⟨Tryz.t89, _, by kernel_rfl, rfl, rfl, rfl, rfl⟩ lf) ⟨Tryz.t90, _, by kernel_rfl, rfl, rfl, rfl, rfl⟩ (nd lf ⟨Tryz.t91, _, by kernel_rfl, rfl, rfl, rfl, rfl⟩ lf)))) ⟨Tryz.t92, _, by kernel_rfl, rfl, rfl, rfl, rfl⟩ (nd (nd (nd (nd lf ⟨Tryz.t93, _, by kernel_rfl, rfl, rfl, rfl, rfl⟩ lf) ⟨Tryz.t94, _, by kernel_rfl, rfl, rfl, rfl, rfl⟩ (nd lf ⟨Tryz.t95, _, by kernel_rfl, rfl, rfl, rfl, rfl⟩ lf)) ⟨Tryz.t96, _, by kernel_rfl, rfl, rfl, rfl, rfl⟩ (nd (nd lf ⟨Tryz.t97, _, by kernel_rfl, rfl, rfl, rfl, rfl⟩ lf) ⟨Tryz.t99, _, by kernel_rfl, rfl, rfl, rfl, rfl⟩ (nd lf ⟨Tryz.t100, _, by kernel_rfl, rfl, rfl, rfl, rfl⟩ lf))) ⟨Tryz.t101, _, by kernel_rfl, rfl, rfl, rfl, rfl⟩ (nd (nd (nd lf ⟨Tryz.t102, _, by kernel_rfl, rfl, rfl, rfl, rfl⟩ lf) ⟨Tryz.t103, _, by kernel_rfl, rfl, rfl, rfl, rfl⟩ (nd lf ⟨Tryz.t104, _, by kernel_rfl, rfl, rfl, rfl, rfl⟩ lf)) ⟨Tryz.t105, _, by kernel_rfl, rfl, rfl, rfl, rfl⟩ (nd (nd lf ⟨Tryz.t106, _, by kernel_rfl, rfl, rfl, rfl, rfl⟩ lf) ⟨Tryz.t107, _, by kernel_rfl, rfl, rfl, rfl, rfl⟩ (nd lf ⟨Tryz.t109, _, by kernel_rfl, rfl, rfl, rfl, rfl⟩ lf))))) ⟨Tryz.t110, _, by kernel_rfl, rfl, rfl, rfl, rfl⟩ (nd (nd (nd (nd (nd lf ⟨Tryz.t112, _, by kernel_rfl, rfl, rfl, rfl, rfl⟩ lf) ⟨Tryz.t113, _, by kernel_rfl, rfl, rfl, rfl, rfl⟩ (nd lf ⟨Tryz.t114, _, by kernel_rfl, rfl, rfl, rfl, rfl⟩ lf)) ⟨Tryz.t115, _, by kernel_rfl, rfl, rfl, rfl, rfl⟩ (nd (nd lf ⟨Tryz.t116, _, by kernel_rfl, rfl, rfl, rfl, rfl⟩ lf) ⟨Tryz.t118, _, by kernel_rfl, rfl, rfl, rfl, rfl⟩ (nd lf ⟨Tryz.t119, _, by kernel_rfl, rfl, rfl, rfl, rfl⟩ lf))) ⟨Tryz.t120, _, by kernel_rfl, rfl, rfl, rfl, rfl⟩ (nd (nd (nd lf ⟨Tryz.t121, _, by kernel_rfl, rfl, rfl, rfl, rfl⟩ lf) ⟨Tryz.t122, _, by kernel_rfl, rfl, rfl, rfl, rfl⟩ (nd lf ⟨Tryz.t123, _, by kernel_rfl, rfl, rfl, rfl, rfl⟩ lf)) ⟨Tryz.t124, _, by kernel_rfl, rfl, rfl, rfl, rfl⟩ (nd (nd lf ⟨Tryz.t126, _, by kernel_rfl, rfl, rfl, rfl, rfl⟩ lf) ⟨Tryz.t127, _, by kernel_rfl, rfl, rfl, rfl, rfl⟩ (nd lf ⟨Tryz.t129, _, by kernel_rfl, rfl, rfl, rfl, rfl⟩ lf)))) ⟨Tryz.t130, _, by kernel_rfl, rfl, rfl, rfl, rfl⟩ (nd (nd (nd (nd lf ⟨Tryz.t131, _, by kernel_rfl, rfl, rfl, rfl, rfl⟩ lf) ⟨Tryz.t132, _, by kernel_rfl, rfl, rfl, rfl, rfl⟩ (nd lf ⟨Tryz.t133, _, by kernel_rfl, rfl, rfl, rfl, rfl⟩ lf)) ⟨Tryz.t134, _, by kernel_rfl, rfl, rfl, rfl, rfl⟩ (nd (nd lf ⟨Tryz.t135, _, by kernel_rfl, rfl, rfl, rfl, rfl⟩ lf) ⟨Tryz.t136, _, by kernel_rfl, rfl, rfl, rfl, rfl⟩ (nd lf ⟨Tryz.t137, _, by kernel_rfl, rfl, rfl, rfl, rfl⟩ lf))) ⟨Tryz.t138, _, by kernel_rfl, rfl, rfl, rfl, rfl⟩ (nd (nd (nd lf ⟨Tryz.t139, _, by kernel_rfl, rfl, rfl, rfl, rfl⟩ lf) ⟨Tryz.t140, _, by kernel_rfl, rfl, rfl, rfl, rfl⟩ (nd lf ⟨Tryz.t141, _, by kernel_rfl, rfl, rfl, rfl, rfl⟩ lf)) ⟨Tryz.t142, _, by kernel_rfl, rfl, rfl, rfl, rfl⟩ (nd (nd lf ⟨Tryz.t143, _, by kernel_rfl, rfl, rfl, rfl, rfl⟩ lf) ⟨Tryz.t144, _, by kernel_rfl, rfl, rfl, rfl, rfl⟩ (nd lf ⟨Tryz.t145, _, by kernel_rfl, rfl, rfl, rfl, rfl⟩ lf))))))) ⟨Tryz.t146, _, by kernel_rfl, rfl, rfl, rfl, rfl⟩ (nd (nd (nd (nd (nd (nd (nd (nd lf ⟨Tryz.t147, _, by kernel_rfl, rfl, rfl, rfl, rfl⟩ lf) ⟨Tryz.t148, _, by kernel_rfl, rfl, rfl, rfl, rfl⟩ lf) ⟨Tryz.t149, _, by kernel_rfl, rfl, rfl, rfl, rfl⟩ (nd lf ⟨Tryz.t150, _, by kernel_rfl, rfl, rfl, rfl, rfl⟩ lf)) ⟨Tryz.t151, _, by kernel_rfl, rfl, rfl, rfl, rfl⟩ (nd (nd lf ⟨Tryz.t152, _, by kernel_rfl, rfl, rfl, rfl, rfl⟩ lf) ⟨Tryz.t153, _, by kernel_rfl, rfl, rfl, rfl, rfl⟩ (nd lf ⟨Tryz.t154, _, by kernel_rfl, rfl, rfl, rfl, rfl⟩ lf))) ⟨Tryz.t155, _, by kernel_rfl, rfl, rfl, rfl, rfl⟩ (nd (nd (nd lf ⟨Tryz.t156, _, by kernel_rfl, rfl, rfl, rfl, rfl⟩ lf) ⟨Tryz.t157, _, by kernel_rfl, rfl, rfl, rfl, rfl⟩ (nd lf ⟨Tryz.t158, _, by kernel_rfl, rfl, rfl, rfl, rfl⟩ lf)) ⟨Tryz.t159, _, by kernel_rfl, rfl, rfl, rfl, rfl⟩ (nd (nd lf ⟨Tryz.t160, _, by kernel_rfl, rfl, rfl, rfl, rfl⟩ lf) ⟨Tryz.t161, _, by kernel_rfl, rfl, rfl, rfl, rfl⟩ (nd lf ⟨Tryz.t162, _, by kernel_rfl, rfl, rfl, rfl, rfl⟩ lf)))) ⟨Tryz.t163, _, by kernel_rfl, rfl, rfl, rfl, rfl⟩ (nd (nd (nd (nd lf ⟨Tryz.t167, _, by kernel_rfl, rfl, rfl, rfl, rfl⟩ lf) ⟨Tryz.t168, _, by kernel_rfl, rfl, rfl, rfl, rfl⟩ (nd lf ⟨Tryz.t169, _, by kernel_rfl, rfl, rfl, rfl, rfl⟩ lf)) ⟨Tryz.t171, _, by kernel_rfl, rfl, rfl, rfl, rfl⟩ (nd (nd lf ⟨Tryz.t172, _, by kernel_rfl, rfl, rfl, rfl, rfl⟩ lf) ⟨Tryz.t173, _, by kernel_rfl, rfl, rfl, rfl, rfl⟩ (nd lf ⟨Tryz.t174, _, by kernel_rfl, rfl, rfl, rfl, rfl⟩ lf))) ⟨Tryz.t175, _, by kernel_rfl, rfl, rfl, rfl, rfl⟩ (nd (nd (nd lf ⟨Tryz.t176, _, by kernel_rfl, rfl, rfl, rfl, rfl⟩ lf) ⟨Tryz.t177, _, by kernel_rfl, rfl, rfl, rfl, rfl⟩ (nd lf ⟨Tryz.t178, _, by kernel_rfl, rfl, rfl, rfl, rfl⟩ lf)) ⟨Tryz.t179, _, by kernel_rfl, rfl, rfl, rfl, rfl⟩ (nd (nd lf ⟨Tryz.t180, _, by kernel_rfl, rfl, rfl, rfl, rfl⟩ lf) ⟨Tryz.t181, _, by kernel_rfl, rfl, rfl, rfl, rfl⟩ (nd lf ⟨Tryz.t182, _, by kernel_rfl, rfl, rfl, rfl, rfl⟩ lf))))) ⟨Tryz.t183, _, by kernel_rfl, rfl, rfl, rfl, rfl⟩ (nd (nd (nd (nd (nd lf ⟨Tryz.t184, _, by kernel_rfl, rfl, rfl, rfl, rfl⟩ lf) ⟨Tryz.t185, _, by kernel_rfl, rfl, rfl, rfl, rfl⟩ (nd lf ⟨Tryz.t186, _, by kernel_rfl, rfl, rfl, rfl, rfl⟩ lf)) ⟨Tryz.t190, _, by kernel_rfl, rfl, rfl, rfl, rfl⟩ (nd (nd lf ⟨Tryz.t191, _, by kernel_rfl, rfl, rfl, rfl, rfl⟩ lf) ⟨Tryz.t192, _, by kernel_rfl, rfl, rfl, rfl, rfl⟩ (nd lf ⟨Tryz.t193, _, by kernel_rfl, rfl, rfl, rfl, rfl⟩ lf))) ⟨Tryz.t194, _, by kernel_rfl, rfl, rfl, rfl, rfl⟩ (nd (nd (nd lf ⟨Tryz.t196, _, by kernel_rfl, rfl, rfl, rfl, rfl⟩ lf) ⟨Tryz.t197, _, by kernel_rfl, rfl, rfl, rfl, rfl⟩ (nd lf ⟨Tryz.t198, _, by kernel_rfl, rfl, rfl, rfl, rfl⟩ lf)) ⟨Tryz.t200, _, by kernel_rfl, rfl, rfl, rfl, rfl⟩ (nd (nd lf ⟨Tryz.t201, _, by kernel_rfl, rfl, rfl, rfl, rfl⟩ lf) ⟨Tryz.t202, _, by kernel_rfl, rfl, rfl, rfl, rfl⟩ (nd lf ⟨Tryz.t204, _, by kernel_rfl, rfl, rfl, rfl, rfl⟩ lf)))) ⟨Tryz.t205, _, by kernel_rfl, rfl, rfl, rfl, rfl⟩ (nd (nd (nd (nd lf ⟨Tryz.t206, _, by kernel_rfl, rfl, rfl, rfl, rfl⟩ lf) ⟨Tryz.t207, _, by kernel_rfl, rfl, rfl, rfl, rfl⟩ (nd lf ⟨Tryz.t208, _, by kernel_rfl, rfl, rfl, rfl, rfl⟩ lf)) ⟨Tryz.t209, _, by kernel_rfl, rfl, rfl, rfl, rfl⟩ (nd (nd lf ⟨Tryz.t210, _, by kernel_rfl, rfl, rfl, rfl, rfl⟩ lf) ⟨Tryz.t211, _, by kernel_rfl, rfl, rfl, rfl, rfl⟩ (nd lf ⟨Tryz.t212, _, by kernel_rfl, rfl, rfl, rfl, rfl⟩ lf))) ⟨Tryz.t213, _, by kernel_rfl, rfl, rfl, rfl, rfl⟩ (nd (nd (nd lf ⟨Tryz.t215, _, by kernel_rfl, rfl, rfl, rfl, rfl⟩ lf) ⟨Tryz.t216, _, by kernel_rfl, rfl, rfl, rfl, rfl⟩ (nd lf ⟨Tryz.t217, _, by kernel_rfl, rfl, rfl, rfl, rfl⟩ lf)) ⟨Tryz.t219, _, by kernel_rfl, rfl, rfl, rfl, rfl⟩ (nd (nd lf ⟨Tryz.t220, _, by kernel_rfl, rfl, rfl, rfl, rfl⟩ lf) ⟨Tryz.t221, _, by kernel_rfl, rfl, rfl, rfl, rfl⟩ (nd lf ⟨Tryz.t223, _, by kernel_rfl, rfl, rfl, rfl, rfl⟩ lf)))))) ⟨Tryz.t224, _, by kernel_rfl, rfl, rfl, rfl, rfl⟩ (nd (nd (nd (nd (nd (nd (nd lf ⟨Tryz.t225, _, by kernel_rfl, rfl, rfl, rfl, rfl⟩ lf) ⟨Tryz.t226, _, by kernel_rfl, rfl, rfl, rfl, rfl⟩ lf) ⟨Tryz.t227, _, by kernel_rfl, rfl, rfl, rfl, rfl⟩ (nd lf ⟨Tryz.t228, _, by kernel_rfl, rfl, rfl, rfl, rfl⟩ lf)) ⟨Tryz.t229, _, by kernel_rfl, rfl, rfl, rfl, rfl⟩ (nd (nd lf ⟨Tryz.t230, _, by kernel_rfl, rfl, rfl, rfl, rfl⟩ lf) ⟨Tryz.t231, _, by kernel_rfl, rfl, rfl, rfl, rfl⟩ (nd lf ⟨Tryz.t232, _, by kernel_rfl, rfl, rfl, rfl, rfl⟩ lf))) ⟨Tryz.t233, _, by kernel_rfl, rfl, rfl, rfl, rfl⟩ (nd (nd (nd lf ⟨Tryz.t234, _, by kernel_rfl, rfl, rfl, rfl, rfl⟩ lf) ⟨Tryz.t235, _, by kernel_rfl, rfl, rfl, rfl, rfl⟩ (nd lf ⟨Tryz.t237, _, by kernel_rfl, rfl, rfl, rfl, rfl⟩ lf)) ⟨Tryz.t238, _, by kernel_rfl, rfl, rfl, rfl, rfl⟩ (nd (nd lf ⟨Tryz.t239, _, by kernel_rfl, rfl, rfl, rfl, rfl⟩ lf) ⟨Tryz.t240, _, by kernel_rfl, rfl, rfl, rfl, rfl⟩ (nd lf ⟨Tryz.t241, _, by kernel_rfl, rfl, rfl, rfl, rfl⟩ lf)))) ⟨Tryz.t242, _, by kernel_rfl, rfl, rfl, rfl, rfl⟩ (nd (nd (nd (nd lf ⟨Tryz.t243, _, by kernel_rfl, rfl, rfl, rfl, rfl⟩ lf) ⟨Tryz.t245, _, by kernel_rfl, rfl, rfl, rfl, rfl⟩ (nd lf ⟨Tryz.t246, _, by kernel_rfl, rfl, rfl, rfl, rfl⟩ lf)) ⟨Tryz.t247, _, by kernel_rfl, rfl, rfl, rfl, rfl⟩ (nd (nd lf ⟨Tryz.t248, _, by kernel_rfl, rfl, rfl, rfl, rfl⟩ lf) ⟨Tryz.t249, _, by kernel_rfl, rfl, rfl, rfl, rfl⟩ (nd lf ⟨Tryz.t250, _, by kernel_rfl, rfl, rfl, rfl, rfl⟩ lf))) ⟨Tryz.t252, _, by kernel_rfl, rfl, rfl, rfl, rfl⟩ (nd (nd (nd lf ⟨Tryz.t253, _, by kernel_rfl, rfl, rfl, rfl, rfl⟩ lf) ⟨Tryz.t254, _, by kernel_rfl, rfl, rfl, rfl, rfl⟩ (nd lf ⟨Tryz.t255, _, by kernel_rfl, rfl, rfl, rfl, rfl⟩ lf)) ⟨Tryz.t256, _, by kernel_rfl, rfl, rfl, rfl, rfl⟩ (nd (nd lf ⟨Tryz.t257, _, by kernel_rfl, rfl, rfl, rfl, rfl⟩ lf) ⟨Tryz.t258, _, by kernel_rfl, rfl, rfl, rfl, rfl⟩ (nd lf ⟨Tryz.t259, _, by kernel_rfl, rfl, rfl, rfl, rfl⟩ lf))))) ⟨Tryz.t260, _, by kernel_rfl, rfl, rfl, rfl, rfl⟩ (nd (nd (nd (nd (nd lf ⟨Tryz.t261, _, by kernel_rfl, rfl, rfl, rfl, rfl⟩ lf) ⟨Tryz.t262, _, by kernel_rfl, rfl, rfl, rfl, rfl⟩ (nd lf ⟨Tryz.t263, _, by kernel_rfl, rfl, rfl, rfl, rfl⟩ lf)) ⟨Tryz.t264, _, by kernel_rfl, rfl, rfl, rfl, rfl⟩ (nd (nd lf ⟨Tryz.t265, _, by kernel_rfl, rfl, rfl, rfl, rfl⟩ lf) ⟨Tryz.t266, _, by kernel_rfl, rfl, rfl, rfl, rfl⟩ (nd lf ⟨Tryz.t268, _, by kernel_rfl, rfl, rfl, rfl, rfl⟩ lf))) ⟨Tryz.t270, _, by kernel_rfl, rfl, rfl, rfl, rfl⟩ (nd (nd (nd lf ⟨Tryz.t271, _, by kernel_rfl, rfl, rfl, rfl, rfl⟩ lf) ⟨Tryz.t272, _, by kernel_rfl, rfl, rfl, rfl, rfl⟩ (nd lf ⟨Tryz.t273, _, by kernel_rfl, rfl, rfl, rfl, rfl⟩ lf)) ⟨Tryz.t274, _, by kernel_rfl, rfl, rfl, rfl, rfl⟩ (nd (nd lf ⟨Tryz.t275, _, by kernel_rfl, rfl, rfl, rfl, rfl⟩ lf) ⟨Tryz.t276, _, by kernel_rfl, rfl, rfl, rfl, rfl⟩ (nd lf ⟨Tryz.t278, _, by kernel_rfl, rfl, rfl, rfl, rfl⟩ lf)))) ⟨Tryz.t279, _, by kernel_rfl, rfl, rfl, rfl, rfl⟩ (nd (nd (nd (nd lf ⟨Tryz.t281, _, by kernel_rfl, rfl, rfl, rfl, rfl⟩ lf) ⟨Tryz.t282, _, by kernel_rfl, rfl, rfl, rfl, rfl⟩ (nd lf ⟨Tryz.t284, _, by kernel_rfl, rfl, rfl, rfl, rfl⟩ lf)) ⟨Tryz.t285, _, by kernel_rfl, rfl, rfl, rfl, rfl⟩ (nd (nd lf ⟨Tryz.t286, _, by kernel_rfl, rfl, rfl, rfl, rfl⟩ lf) ⟨Tryz.t287, _, by kernel_rfl, rfl, rfl, rfl, rfl⟩ (nd lf ⟨Tryz.t288, _, by kernel_rfl, rfl, rfl, rfl, rfl⟩ lf))) ⟨Tryz.t289, _, by kernel_rfl, rfl, rfl, rfl, rfl⟩ (nd (nd (nd lf ⟨Tryz.t290, _, by kernel_rfl, rfl, rfl, rfl, rfl⟩ lf) ⟨Tryz.t291, _, by kernel_rfl, rfl, rfl, rfl, rfl⟩ (nd lf ⟨Tryz.t292, _, by kernel_rfl, rfl, rfl, rfl, rfl⟩ lf)) ⟨Tryz.t293, _, by kernel_rfl, rfl, rfl, rfl, rfl⟩ (nd (nd lf ⟨Tryz.t294, _, by kernel_rfl, rfl, rfl, rfl, rfl⟩ lf) ⟨Tryz.t295, _, by kernel_rfl, rfl, rfl, rfl, rfl⟩ (nd lf ⟨Tryz.t296, _, by kernel_rfl, rfl, rfl, rfl, rfl⟩ lf))))))))
set_option maxRecDepth 100000 in
theorem fnOk : fnB.All fun x => ∀ args w, (callFunc x.1 args).run Tryz.prog w = .ok (.enter x.1 args) w := (nd (nd (nd (nd (nd (nd (nd (nd (nd lf Tryz.call3 lf) Tryz.call4 lf) Tryz.call5 (nd lf Tryz.call6 lf)) Tryz.call7 (nd (nd (nd lf Tryz.call8 lf) Tryz.call9 lf) Tryz.call10 (nd lf Tryz.call11 lf))) Tryz.call12 (nd (nd (nd (nd lf Tryz.call13 lf) Tryz.call14 lf) Tryz.call15 (nd lf Tryz.call16 lf)) Tryz.call17 (nd (nd lf Tryz.call18 lf) Tryz.call19 (nd lf Tryz.call20 lf)))) Tryz.call21 (nd (nd (nd (nd (nd lf Tryz.call22 lf) Tryz.call23 lf) Tryz.call24 (nd lf Tryz.call25 lf)) Tryz.call26 (nd (nd lf Tryz.call27 lf) Tryz.call28 (nd lf Tryz.call29 lf))) Tryz.call30 (nd (nd (nd (nd lf Tryz.call31 lf) Tryz.call32 lf) Tryz.call33 (nd lf Tryz.call34 lf)) Tryz.call35 (nd (nd lf Tryz.call36 lf) Tryz.call37 (nd lf Tryz.call38 lf))))) Tryz.call39 (nd (nd (nd (nd (nd (nd lf Tryz.call40 lf) Tryz.call41 lf) Tryz.call42 (nd lf Tryz.call43 lf)) Tryz.call44 (nd (nd (nd lf Tryz.call45 lf) Tryz.call46 lf) Tryz.call47 (nd lf Tryz.call48 lf))) Tryz.call49 (nd (nd (nd (nd lf Tryz.call50 lf) Tryz.call51 lf) Tryz.call52 (nd lf Tryz.call53 lf)) Tryz.call54 (nd (nd lf Tryz.call55 lf) Tryz.call56 (nd lf Tryz.call57 lf)))) Tryz.call58 (nd (nd (nd (nd (nd lf Tryz.call59 lf) Tryz.call60 lf) Tryz.call61 (nd lf Tryz.call62 lf)) Tryz.call63 (nd (nd lf Tryz.call64 lf) Tryz.call65 (nd lf Tryz.call66 lf))) Tryz.call67 (nd (nd (nd (nd lf Tryz.call68 lf) Tryz.call69 lf) Tryz.call70 (nd lf Tryz.call71 lf)) Tryz.call72 (nd (nd lf Tryz.call73 lf) Tryz.call74 (nd lf Tryz.call75 lf)))))) Tryz.call76 (nd (nd (nd (nd (nd (nd (nd lf Tryz.call77 lf) Tryz.call78 lf) Tryz.call79 (nd lf Tryz.call80 lf)) Tryz.call81 (nd (nd (nd lf Tryz.call82 lf) Tryz.call83 lf) Tryz.call84 (nd lf Tryz.call85 lf))) Tryz.call86 (nd (nd (nd (nd lf Tryz.call87 lf) Tryz.call88 lf) Tryz.call89 (nd lf Tryz.call90 lf)) Tryz.call91 (nd (nd lf Tryz.call92 lf) Tryz.call93 (nd lf Tryz.call94 lf)))) Tryz.call95 (nd (nd (nd (nd (nd lf Tryz.call96 lf) Tryz.call97 lf) Tryz.call98 (nd lf Tryz.call99 lf)) Tryz.call100 (nd (nd lf Tryz.call101 lf) Tryz.call102 (nd lf Tryz.call103 lf))) Tryz.call104 (nd (nd (nd (nd lf Tryz.call105 lf) Tryz.call106 lf) Tryz.call107 (nd lf Tryz.call108 lf)) Tryz.call109 (nd (nd lf Tryz.call110 lf) Tryz.call111 (nd lf Tryz.call112 lf))))) Tryz.call113 (nd (nd (nd (nd (nd (nd lf Tryz.call114 lf) Tryz.call115 lf) Tryz.call116 (nd lf Tryz.call117 lf)) Tryz.call118 (nd (nd (nd lf Tryz.call119 lf) Tryz.call120 lf) Tryz.call121 (nd lf Tryz.call122 lf))) Tryz.call123 (nd (nd (nd (nd lf Tryz.call124 lf) Tryz.call125 lf) Tryz.call126 (nd lf Tryz.call127 lf)) Tryz.call128 (nd (nd lf Tryz.call129 lf) Tryz.call130 (nd lf Tryz.call131 lf)))) Tryz.call132 (nd (nd (nd (nd (nd lf Tryz.call133 lf) Tryz.call134 lf) Tryz.call135 (nd lf Tryz.call136 lf)) Tryz.call137 (nd (nd lf Tryz.call138 lf) Tryz.call139 (nd lf Tryz.call140 lf))) Tryz.call141 (nd (nd (nd (nd lf Tryz.call142 lf) Tryz.call143 lf) Tryz.call144 (nd lf Tryz.call145 lf)) Tryz.call146 (nd (nd lf Tryz.call147 lf) Tryz.call148 (nd lf Tryz.call149 lf))))))) Tryz.call150 (nd (nd (nd (nd (nd (nd (nd (nd lf Tryz.call151 lf) Tryz.call152 lf) Tryz.call153 (nd lf Tryz.call154 lf)) Tryz.call155 (nd (nd (nd lf Tryz.call156 lf) Tryz.call157 lf) Tryz.call158 (nd lf Tryz.call159 lf))) Tryz.call160 (nd (nd (nd (nd lf Tryz.call161 lf) Tryz.call162 lf) Tryz.call163 (nd lf Tryz.call164 lf)) Tryz.call165 (nd (nd lf Tryz.call166 lf) Tryz.call167 (nd lf Tryz.call168 lf)))) Tryz.call169 (nd (nd (nd (nd (nd lf Tryz.call170 lf) Tryz.call171 lf) Tryz.call172 (nd lf Tryz.call173 lf)) Tryz.call174 (nd (nd lf Tryz.call175 lf) Tryz.call176 (nd lf Tryz.call177 lf))) Tryz.call178 (nd (nd (nd (nd lf Tryz.call179 lf) Tryz.call180 lf) Tryz.call181 (nd lf Tryz.call182 lf)) Tryz.call183 (nd (nd lf Tryz.call184 lf) Tryz.call185 (nd lf Tryz.call186 lf))))) Tryz.call187 (nd (nd (nd (nd (nd (nd lf Tryz.call188 lf) Tryz.call189 lf) Tryz.call190 (nd lf Tryz.call191 lf)) Tryz.call192 (nd (nd (nd lf Tryz.call193 lf) Tryz.call194 lf) Tryz.call195 (nd lf Tryz.call196 lf))) Tryz.call197 (nd (nd (nd (nd lf Tryz.call198 lf) Tryz.call199 lf) Tryz.call200 (nd lf Tryz.call201 lf)) Tryz.call202 (nd (nd lf Tryz.call203 lf) Tryz.call204 (nd lf Tryz.call205 lf)))) Tryz.call206 (nd (nd (nd (nd (nd lf Tryz.call207 lf) Tryz.call208 lf) Tryz.call209 (nd lf Tryz.call210 lf)) Tryz.call211 (nd (nd lf Tryz.call212 lf) Tryz.call213 (nd lf Tryz.call214 lf))) Tryz.call215 (nd (nd (nd (nd lf Tryz.call216 lf) Tryz.call217 lf) Tryz.call218 (nd lf Tryz.call219 lf)) Tryz.call220 (nd (nd lf Tryz.call221 lf) Tryz.call222 (nd lf Tryz.call223 lf)))))) Tryz.call224 (nd (nd (nd (nd (nd (nd (nd lf Tryz.call225 lf) Tryz.call226 lf) Tryz.call227 (nd lf Tryz.call228 lf)) Tryz.call229 (nd (nd (nd lf Tryz.call230 lf) Tryz.call231 lf) Tryz.call232 (nd lf Tryz.call233 lf))) Tryz.call234 (nd (nd (nd (nd lf Tryz.call235 lf) Tryz.call236 lf) Tryz.call237 (nd lf Tryz.call238 lf)) Tryz.call239 (nd (nd lf Tryz.call240 lf) Tryz.call241 (nd lf Tryz.call242 lf)))) Tryz.call243 (nd (nd (nd (nd (nd lf Tryz.call244 lf) Tryz.call245 lf) Tryz.call246 (nd lf Tryz.call247 lf)) Tryz.call248 (nd (nd lf Tryz.call249 lf) Tryz.call250 (nd lf Tryz.call251 lf))) Tryz.call252 (nd (nd (nd (nd lf Tryz.call253 lf) Tryz.call254 lf) Tryz.call255 (nd lf Tryz.call256 lf)) Tryz.call257 (nd (nd lf Tryz.call258 lf) Tryz.call259 (nd lf Tryz.call261 lf))))) Tryz.call262 (nd (nd (nd (nd (nd (nd lf Tryz.call263 lf) Tryz.call264 lf) Tryz.call265 (nd lf Tryz.call266 lf)) Tryz.call267 (nd (nd lf Tryz.call268 lf) Tryz.call269 (nd lf Tryz.call270 lf))) Tryz.call271 (nd (nd (nd (nd lf Tryz.call272 lf) Tryz.call273 lf) Tryz.call275 (nd lf Tryz.call276 lf)) Tryz.call277 (nd (nd lf Tryz.call278 lf) Tryz.call279 (nd lf Tryz.call280 lf)))) Tryz.call281 (nd (nd (nd (nd (nd lf Tryz.call282 lf) Tryz.call283 lf) Tryz.call284 (nd lf Tryz.call286 lf)) Tryz.call287 (nd (nd lf Tryz.call288 lf) Tryz.call289 (nd lf Tryz.call290 lf))) Tryz.call291 (nd (nd (nd (nd lf Tryz.call292 lf) Tryz.call293 lf) Tryz.call294 (nd lf Tryz.call295 lf)) Tryz.call296 (nd (nd lf Tryz.call297 lf) Tryz.call298 (nd lf Tryz.call299 lf))))))))
theorem mixedOk : Tryz.prog.follows .mixedOrders = true := by kernel_rfl
set_option maxRecDepth 100000 in
theorem ok : T.Ok where
  und t d h := BT.all_mem (y := (t, d)) undOk (look_mem h)
  inf t z n h := BT.all_mem (y := (t, (z, n))) infOk (look_mem h)
  fn f h args w := by
    obtain ⟨x, hx⟩ := Option.isSome_iff_exists.1 (show (look fnB f).isSome = true from h)
    exact BT.all_mem fnOk (look_mem hx) args w
  mixed := mixedOk
abbrev F.law04_ExprNames : Nat := 3
abbrev F.law04_ExprParses : Nat := 4
abbrev F.law04_ExprPrints : Nat := 5
abbrev F.law04_ExprNormal : Nat := 6
abbrev F.law04_ExprSwap : Nat := 7
theorem D.law04_ExprSwap : T.prog.funcs[F.law04_ExprSwap]? = some Tryz.f7 := Tryz.func7
abbrev F.law04_ExprSubst : Nat := 8
abbrev F.law04_ExprEqual : Nat := 9
abbrev F.law04_ExprValid : Nat := 10
abbrev F.law04_ExprBranch : Nat := 11
theorem D.law04_ExprBranch : T.prog.funcs[F.law04_ExprBranch]? = some Tryz.f11 := Tryz.func11
abbrev F.law04_ExprBranchEnds : Nat := 12
theorem D.law04_ExprBranchEnds : T.prog.funcs[F.law04_ExprBranchEnds]? = some Tryz.f12 := Tryz.func12
abbrev F.law04_ExprPeriodic : Nat := 13
abbrev F.law04_ExprPeriodicParts : Nat := 14
abbrev F.ref04_IsName : Nat := 15
theorem D.ref04_IsName : T.prog.funcs[F.ref04_IsName]? = some Tryz.f15 := Tryz.func15
abbrev F.expr_Parse : Nat := 16
theorem D.expr_Parse : T.prog.funcs[F.expr_Parse]? = some Tryz.f16 := Tryz.func16
abbrev F.expr_IsName : Nat := 17
theorem D.expr_IsName : T.prog.funcs[F.expr_IsName]? = some Tryz.f17 := Tryz.func17
abbrev F.law04_sane : Nat := 18
theorem D.law04_sane : T.prog.funcs[F.law04_sane]? = some Tryz.f18 := Tryz.func18
abbrev F.ref04_Parse : Nat := 19
abbrev F.law04_agrees : Nat := 20
theorem D.law04_agrees : T.prog.funcs[F.law04_agrees]? = some Tryz.f20 := Tryz.func20
abbrev F.law04_canonical : Nat := 21
abbrev F.expr_Print : Nat := 22
theorem D.expr_Print : T.prog.funcs[F.expr_Print]? = some Tryz.f22 := Tryz.func22
abbrev F.ref04_Print : Nat := 23
abbrev F.law04_longest : Nat := 24
abbrev F.ref04_Same : Nat := 25
theorem D.ref04_Same : T.prog.funcs[F.ref04_Same]? = some Tryz.f25 := Tryz.func25
abbrev F.expr_Swap : Nat := 26
theorem D.expr_Swap : T.prog.funcs[F.expr_Swap]? = some Tryz.f26 := Tryz.func26
abbrev F.ref04_Swap : Nat := 27
theorem D.ref04_Swap : T.prog.funcs[F.ref04_Swap]? = some Tryz.f27 := Tryz.func27
abbrev F.expr_Subst : Nat := 28
abbrev F.ref04_Subst : Nat := 29
abbrev F.expr_Equal : Nat := 30
abbrev F.ref04_Equal : Nat := 31
abbrev F.ref04_Valid : Nat := 32
theorem D.ref04_Valid : T.prog.funcs[F.ref04_Valid]? = some Tryz.f32 := Tryz.func32
abbrev F.expr_Size : Nat := 33
abbrev F.ref04_Size : Nat := 34
abbrev F.expr_Vars : Nat := 35
abbrev F.ref04_Vars : Nat := 36
abbrev F.expr_Smooth : Nat := 37
theorem D.expr_Smooth : T.prog.funcs[F.expr_Smooth]? = some Tryz.f37 := Tryz.func37
abbrev F.ref04_Smooth : Nat := 38
abbrev F.expr_Valid : Nat := 39
theorem D.expr_Valid : T.prog.funcs[F.expr_Valid]? = some Tryz.f39 := Tryz.func39
abbrev F.law04_same : Nat := 40
abbrev F.expr_Branch : Nat := 41
theorem D.expr_Branch : T.prog.funcs[F.expr_Branch]? = some Tryz.f41 := Tryz.func41
abbrev F.ref04_Branch : Nat := 42
theorem D.ref04_Branch : T.prog.funcs[F.ref04_Branch]? = some Tryz.f42 := Tryz.func42
abbrev F.law04_cases : Nat := 43
theorem D.law04_cases : T.prog.funcs[F.law04_cases]? = some Tryz.f43 := Tryz.func43
abbrev F.expr_Periodic : Nat := 44
abbrev F.ref04_Periodic : Nat := 45
abbrev F.ref04_Has : Nat := 46
abbrev F.law04_node : Nat := 47
abbrev F.ref04_word : Nat := 48
theorem D.ref04_word : T.prog.funcs[F.ref04_word]? = some Tryz.f48 := Tryz.func48
abbrev F.ref04_reserved : Nat := 49
theorem D.ref04_reserved : T.prog.funcs[F.ref04_reserved]? = some Tryz.f49 := Tryz.func49
abbrev F.syntax_Scan : Nat := 50
theorem D.syntax_Scan : T.prog.funcs[F.syntax_Scan]? = some Tryz.f50 := Tryz.func50
abbrev F.syntax_New : Nat := 51
theorem D.syntax_New : T.prog.funcs[F.syntax_New]? = some Tryz.f51 := Tryz.func51
abbrev F.syntax_Run : Nat := 52
abbrev F.expr_Parse_1 : Nat := 53
theorem D.expr_Parse_1 : T.prog.funcs[F.expr_Parse_1]? = some Tryz.f53 := Tryz.func53
abbrev F.psyntax_Parser_Expr : Nat := 54
theorem D.psyntax_Parser_Expr : T.prog.funcs[F.psyntax_Parser_Expr]? = some Tryz.f54 := Tryz.func54
abbrev F.psyntax_Parser_Done : Nat := 55
theorem D.psyntax_Parser_Done : T.prog.funcs[F.psyntax_Parser_Done]? = some Tryz.f55 := Tryz.func55
abbrev F.psyntax_Parser_Check : Nat := 56
theorem D.psyntax_Parser_Check : T.prog.funcs[F.psyntax_Parser_Check]? = some Tryz.f56 := Tryz.func56
abbrev F.expr_checked : Nat := 57
theorem D.expr_checked : T.prog.funcs[F.expr_checked]? = some Tryz.f57 := Tryz.func57
abbrev F.syntax_IsName : Nat := 58
theorem D.syntax_IsName : T.prog.funcs[F.syntax_IsName]? = some Tryz.f58 := Tryz.func58
abbrev F.ref04_Scan : Nat := 59
abbrev F.ref04_Begin : Nat := 60
abbrev F.pref04_Reader_Sum : Nat := 61
abbrev F.pref04_Reader_Next : Nat := 62
abbrev F.pref04_Reader_Fail : Nat := 63
abbrev F.ref04_Numbers : Nat := 64
abbrev F.ref04_fits : Nat := 65
theorem D.ref04_fits : T.prog.funcs[F.ref04_fits]? = some Tryz.f65 := Tryz.func65
abbrev F.law04_nothing : Nat := 66
theorem D.law04_nothing : T.prog.funcs[F.law04_nothing]? = some Tryz.f66 := Tryz.func66
abbrev F.ref01_Canonical : Nat := 67
abbrev F.expr_text : Nat := 68
theorem D.expr_text : T.prog.funcs[F.expr_text]? = some Tryz.f68 := Tryz.func68
abbrev F.ref04_Text : Nat := 69
abbrev F.ref01_Text : Nat := 70
abbrev F.ref01_Of : Nat := 71
theorem D.ref01_Of : T.prog.funcs[F.ref01_Of]? = some Tryz.f71 := Tryz.func71
abbrev F.ref01_Same : Nat := 72
theorem D.ref01_Same : T.prog.funcs[F.ref01_Same]? = some Tryz.f72 := Tryz.func72
abbrev F.expr_replaced : Nat := 73
theorem D.expr_replaced : T.prog.funcs[F.expr_replaced]? = some Tryz.f73 := Tryz.func73
abbrev F.expr_Swap_1 : Nat := 74
theorem D.expr_Swap_1 : T.prog.funcs[F.expr_Swap_1]? = some Tryz.f74 := Tryz.func74
abbrev F.ref04_subst : Nat := 75
theorem D.ref04_subst : T.prog.funcs[F.ref04_subst]? = some Tryz.f75 := Tryz.func75
abbrev F.expr_Subst_1 : Nat := 76
abbrev F.expr_equal : Nat := 77
abbrev F.ref04_walk : Nat := 78
theorem D.ref04_walk : T.prog.funcs[F.ref04_walk]? = some Tryz.f78 := Tryz.func78
abbrev F.expr_count : Nat := 79
theorem D.expr_count : T.prog.funcs[F.expr_count]? = some Tryz.f79 := Tryz.func79
abbrev F.ref04_Count : Nat := 80
abbrev F.expr_nodes : Nat := 81
abbrev F.slices_Sorted_of_string : Nat := 82
abbrev F.maps_Keys_of_map_of_stringbool_string_bool : Nat := 83
abbrev F.ref04_Names : Nat := 84
abbrev F.expr_smooth : Nat := 85
abbrev F.ref04_rough : Nat := 86
abbrev F.expr_resolved : Nat := 87
theorem D.expr_resolved : T.prog.funcs[F.expr_resolved]? = some Tryz.f87 := Tryz.func87
abbrev F.ref04_resolved : Nat := 88
theorem D.ref04_resolved : T.prog.funcs[F.ref04_resolved]? = some Tryz.f88 := Tryz.func88
abbrev F.expr_periodic : Nat := 89
abbrev F.ref04_periodic : Nat := 90
abbrev F.syntax_word : Nat := 91
theorem D.syntax_word : T.prog.funcs[F.syntax_word]? = some Tryz.f91 := Tryz.func91
abbrev F.elem_Find : Nat := 92
theorem D.elem_Find : T.prog.funcs[F.elem_Find]? = some Tryz.f92 := Tryz.func92
abbrev F.syntax_Reserved : Nat := 93
theorem D.syntax_Reserved : T.prog.funcs[F.syntax_Reserved]? = some Tryz.f93 := Tryz.func93
abbrev F.syntax_number : Nat := 94
theorem D.syntax_number : T.prog.funcs[F.syntax_number]? = some Tryz.f94 := Tryz.func94
abbrev F.strings_HasPrefix : Nat := 95
theorem D.strings_HasPrefix : T.prog.funcs[F.strings_HasPrefix]? = some Tryz.f95 := Tryz.func95
abbrev F.syntax_Run_1 : Nat := 96
abbrev F.psyntax_Parser_term : Nat := 97
theorem D.psyntax_Parser_term : T.prog.funcs[F.psyntax_Parser_term]? = some Tryz.f97 := Tryz.func97
abbrev F.psyntax_Parser_Accept : Nat := 98
theorem D.psyntax_Parser_Accept : T.prog.funcs[F.psyntax_Parser_Accept]? = some Tryz.f98 := Tryz.func98
abbrev F.syntax_node : Nat := 99
theorem D.syntax_node : T.prog.funcs[F.syntax_node]? = some Tryz.f99 := Tryz.func99
abbrev F.psyntax_Parser_Fail : Nat := 100
theorem D.psyntax_Parser_Fail : T.prog.funcs[F.psyntax_Parser_Fail]? = some Tryz.f100 := Tryz.func100
abbrev F.strings_Cut : Nat := 101
theorem D.strings_Cut : T.prog.funcs[F.strings_Cut]? = some Tryz.f101 := Tryz.func101
abbrev F.strings_Trim : Nat := 102
theorem D.strings_Trim : T.prog.funcs[F.strings_Trim]? = some Tryz.f102 := Tryz.func102
abbrev F.number_Parse : Nat := 103
theorem D.number_Parse : T.prog.funcs[F.number_Parse]? = some Tryz.f103 := Tryz.func103
abbrev F.expr_clone : Nat := 104
theorem D.expr_clone : T.prog.funcs[F.expr_clone]? = some Tryz.f104 := Tryz.func104
abbrev F.ref04_letters : Nat := 105
abbrev F.ref04_kind : Nat := 106
abbrev F.ref04_number : Nat := 107
abbrev F.ref04_sign : Nat := 108
abbrev F.pref04_Reader_term : Nat := 109
abbrev F.pref04_Reader_At : Nat := 110
abbrev F.ref04_two : Nat := 111
theorem D.ref04_two : T.prog.funcs[F.ref04_two]? = some Tryz.f111 := Tryz.func111
abbrev F.ref04_nought : Nat := 112
abbrev F.ref01_Parse : Nat := 113
abbrev F.ref01_Large : Nat := 114
theorem D.ref01_Large : T.prog.funcs[F.ref01_Large]? = some Tryz.f114 := Tryz.func114
abbrev F.ref04_whole : Nat := 115
abbrev F.ref04_Fits : Nat := 116
theorem D.ref04_Fits : T.prog.funcs[F.ref04_Fits]? = some Tryz.f116 := Tryz.func116
abbrev F.ref01_Rat : Nat := 117
abbrev F.expr_write : Nat := 118
theorem D.expr_write : T.prog.funcs[F.expr_write]? = some Tryz.f118 := Tryz.func118
abbrev F.pstrings_Builder_String : Nat := 119
theorem D.pstrings_Builder_String : T.prog.funcs[F.pstrings_Builder_String]? = some Tryz.f119 := Tryz.func119
abbrev F.ref04_placed : Nat := 120
abbrev F.ref04_Digits : Nat := 121
abbrev F.ref04_called : Nat := 122
abbrev F.ref01_natText : Nat := 123
abbrev F.ref01_Q_whole : Nat := 124
abbrev F.ref01_words : Nat := 125
theorem D.ref01_words : T.prog.funcs[F.ref01_words]? = some Tryz.f125 := Tryz.func125
abbrev F.ref01_NatOf : Nat := 126
theorem D.ref01_NatOf : T.prog.funcs[F.ref01_NatOf]? = some Tryz.f126 := Tryz.func126
abbrev F.ref01_Make : Nat := 127
theorem D.ref01_Make : T.prog.funcs[F.ref01_Make]? = some Tryz.f127 := Tryz.func127
abbrev F.ref01_Cmp : Nat := 128
theorem D.ref01_Cmp : T.prog.funcs[F.ref01_Cmp]? = some Tryz.f128 := Tryz.func128
abbrev F.number_Compare : Nat := 129
abbrev F.slices_EqualFunc_of__of_api_Expr__of_api_Expr_api_Expr_api_Expr : Nat := 130
abbrev F.ref04_node : Nat := 131
theorem D.ref04_node : T.prog.funcs[F.ref04_node]? = some Tryz.f131 := Tryz.func131
abbrev F.expr_fields : Nat := 132
theorem D.expr_fields : T.prog.funcs[F.expr_fields]? = some Tryz.f132 := Tryz.func132
abbrev F.expr_nodes_1 : Nat := 133
abbrev F.expr_each : Nat := 134
abbrev F.slices_Collect_of_string : Nat := 135
abbrev F.slices_Sort_of__of_string_string : Nat := 136
abbrev F.maps_Keys_of_map_of_stringbool_string_bool_1 : Nat := 137
abbrev F.ref04_put : Nat := 138
abbrev F.expr_rough : Nat := 139
abbrev F.expr_with : Nat := 140
theorem D.expr_with : T.prog.funcs[F.expr_with]? = some Tryz.f140 := Tryz.func140
abbrev F.expr_node : Nat := 141
theorem D.expr_node : T.prog.funcs[F.expr_node]? = some Tryz.f141 := Tryz.func141
abbrev F.ref04_replaced : Nat := 142
theorem D.ref04_replaced : T.prog.funcs[F.ref04_replaced]? = some Tryz.f142 := Tryz.func142
abbrev F.ref04_one : Nat := 143
theorem D.ref04_one : T.prog.funcs[F.ref04_one]? = some Tryz.f143 := Tryz.func143
abbrev F.expr_linear : Nat := 144
abbrev F.ref04_linear : Nat := 145
abbrev F.syntax_letter : Nat := 146
theorem D.syntax_letter : T.prog.funcs[F.syntax_letter]? = some Tryz.f146 := Tryz.func146
abbrev F.syntax_digit : Nat := 147
theorem D.syntax_digit : T.prog.funcs[F.syntax_digit]? = some Tryz.f147 := Tryz.func147
abbrev F.elem_names : Nat := 148
theorem D.elem_names : T.prog.funcs[F.elem_names]? = some Tryz.f148 := Tryz.func148
abbrev F.syntax_digits : Nat := 149
theorem D.syntax_digits : T.prog.funcs[F.syntax_digits]? = some Tryz.f149 := Tryz.func149
abbrev F.internal_stringslite_HasPrefix : Nat := 150
theorem D.internal_stringslite_HasPrefix : T.prog.funcs[F.internal_stringslite_HasPrefix]? = some Tryz.f150 := Tryz.func150
abbrev F.psyntax_Parser_factor : Nat := 151
theorem D.psyntax_Parser_factor : T.prog.funcs[F.psyntax_Parser_factor]? = some Tryz.f151 := Tryz.func151
abbrev F.psyntax_Parser_At : Nat := 152
theorem D.psyntax_Parser_At : T.prog.funcs[F.psyntax_Parser_At]? = some Tryz.f152 := Tryz.func152
abbrev F.internal_stringslite_Cut : Nat := 153
theorem D.internal_stringslite_Cut : T.prog.funcs[F.internal_stringslite_Cut]? = some Tryz.f153 := Tryz.func153
abbrev F.strings_trimLeftByte : Nat := 154
theorem D.strings_trimLeftByte : T.prog.funcs[F.strings_trimLeftByte]? = some Tryz.f154 := Tryz.func154
abbrev F.strings_trimRightByte : Nat := 155
theorem D.strings_trimRightByte : T.prog.funcs[F.strings_trimRightByte]? = some Tryz.f155 := Tryz.func155
abbrev F.strings_makeASCIISet : Nat := 156
abbrev F.strings_trimLeftASCII : Nat := 157
abbrev F.strings_trimRightASCII : Nat := 158
abbrev F.strings_trimLeftUnicode : Nat := 159
abbrev F.strings_trimRightUnicode : Nat := 160
abbrev F.number_run : Nat := 161
theorem D.number_run : T.prog.funcs[F.number_run]? = some Tryz.f161 := Tryz.func161
abbrev F.word_Reduce : Nat := 162
theorem D.word_Reduce : T.prog.funcs[F.word_Reduce]? = some Tryz.f162 := Tryz.func162
abbrev F.number_natural : Nat := 163
theorem D.number_natural : T.prog.funcs[F.number_natural]? = some Tryz.f163 := Tryz.func163
abbrev F.word_Small : Nat := 164
theorem D.word_Small : T.prog.funcs[F.word_Small]? = some Tryz.f164 := Tryz.func164
abbrev F.word_Nat_Pow : Nat := 165
theorem D.word_Nat_Pow : T.prog.funcs[F.word_Nat_Pow]? = some Tryz.f165 := Tryz.func165
abbrev F.word_Frac_Give : Nat := 166
theorem D.word_Frac_Give : T.prog.funcs[F.word_Frac_Give]? = some Tryz.f166 := Tryz.func166
abbrev F.word_Nat_Zero : Nat := 167
theorem D.word_Nat_Zero : T.prog.funcs[F.word_Nat_Zero]? = some Tryz.f167 := Tryz.func167
abbrev F.number_Canon : Nat := 168
theorem D.number_Canon : T.prog.funcs[F.number_Canon]? = some Tryz.f168 := Tryz.func168
abbrev F.ref02_Find : Nat := 169
abbrev F.ref04_digits : Nat := 170
abbrev F.pref04_Reader_factor : Nat := 171
abbrev F.ref01_run : Nat := 172
abbrev F.ref01_Done : Nat := 173
abbrev F.ref01_natRead : Nat := 174
abbrev F.ref01_NatPow : Nat := 175
abbrev F.ref01_Over : Nat := 176
theorem D.ref01_Over : T.prog.funcs[F.ref01_Over]? = some Tryz.f176 := Tryz.func176
abbrev F.ref01_list : Nat := 177
abbrev F.number_Format : Nat := 178
theorem D.number_Format : T.prog.funcs[F.number_Format]? = some Tryz.f178 := Tryz.func178
abbrev F.pstrings_Builder_WriteString : Nat := 179
theorem D.pstrings_Builder_WriteString : T.prog.funcs[F.pstrings_Builder_WriteString]? = some Tryz.f179 := Tryz.func179
abbrev F.expr_place : Nat := 180
theorem D.expr_place : T.prog.funcs[F.expr_place]? = some Tryz.f180 := Tryz.func180
abbrev F.expr_infix : Nat := 181
theorem D.expr_infix : T.prog.funcs[F.expr_infix]? = some Tryz.f181 := Tryz.func181
abbrev F.strconv_Itoa : Nat := 182
abbrev F.expr_list : Nat := 183
theorem D.expr_list : T.prog.funcs[F.expr_list]? = some Tryz.f183 := Tryz.func183
abbrev F.ref04_level : Nat := 184
abbrev F.ref01_Int : Nat := 185
abbrev F.ref02_Name : Nat := 186
abbrev F.ref01_small : Nat := 187
theorem D.ref01_small : T.prog.funcs[F.ref01_small]? = some Tryz.f187 := Tryz.func187
abbrev F.ref01_trim : Nat := 188
theorem D.ref01_trim : T.prog.funcs[F.ref01_trim]? = some Tryz.f188 := Tryz.func188
abbrev F.ref01_NatGcd : Nat := 189
theorem D.ref01_NatGcd : T.prog.funcs[F.ref01_NatGcd]? = some Tryz.f189 := Tryz.func189
abbrev F.ref01_NatDiv : Nat := 190
theorem D.ref01_NatDiv : T.prog.funcs[F.ref01_NatDiv]? = some Tryz.f190 := Tryz.func190
abbrev F.ref01_Sgn : Nat := 191
theorem D.ref01_Sgn : T.prog.funcs[F.ref01_Sgn]? = some Tryz.f191 := Tryz.func191
abbrev F.ref01_Diff : Nat := 192
theorem D.ref01_Diff : T.prog.funcs[F.ref01_Diff]? = some Tryz.f192 := Tryz.func192
abbrev F.word_Read : Nat := 193
theorem D.word_Read : T.prog.funcs[F.word_Read]? = some Tryz.f193 := Tryz.func193
abbrev F.word_Frac_Cmp : Nat := 194
abbrev F.ref04_kids : Nat := 195
theorem D.ref04_kids : T.prog.funcs[F.ref04_kids]? = some Tryz.f195 := Tryz.func195
abbrev F.ref04_argument : Nat := 196
theorem D.ref04_argument : T.prog.funcs[F.ref04_argument]? = some Tryz.f196 := Tryz.func196
abbrev F.ref01_Zero : Nat := 197
theorem D.ref01_Zero : T.prog.funcs[F.ref01_Zero]? = some Tryz.f197 := Tryz.func197
abbrev F.expr_kids : Nat := 198
theorem D.expr_kids : T.prog.funcs[F.expr_kids]? = some Tryz.f198 := Tryz.func198
abbrev F.word_Of : Nat := 199
theorem D.word_Of : T.prog.funcs[F.word_Of]? = some Tryz.f199 := Tryz.func199
abbrev F.word_Frac_Sign : Nat := 200
theorem D.word_Frac_Sign : T.prog.funcs[F.word_Frac_Sign]? = some Tryz.f200 := Tryz.func200
abbrev F.slices_AppendSeq_of__of_string_string : Nat := 201
abbrev F.slices_pdqsortOrdered_of_string : Nat := 202
abbrev F.math_bits_Len : Nat := 203
abbrev F.expr_has : Nat := 204
abbrev F.expr_literal : Nat := 205
abbrev F.word_Nat_One : Nat := 206
theorem D.word_Nat_One : T.prog.funcs[F.word_Nat_One]? = some Tryz.f206 := Tryz.func206
abbrev F.ref04_literal : Nat := 207
abbrev F.ref01_Whole : Nat := 208
abbrev F.psyntax_Parser_atom : Nat := 209
theorem D.psyntax_Parser_atom : T.prog.funcs[F.psyntax_Parser_atom]? = some Tryz.f209 := Tryz.func209
abbrev F.psyntax_Parser_count : Nat := 210
theorem D.psyntax_Parser_count : T.prog.funcs[F.psyntax_Parser_count]? = some Tryz.f210 := Tryz.func210
abbrev F.internal_stringslite_Index : Nat := 211
theorem D.internal_stringslite_Index : T.prog.funcs[F.internal_stringslite_Index]? = some Tryz.f211 := Tryz.func211
abbrev F.pstrings_asciiSet_contains : Nat := 212
abbrev F.unicode_utf8_DecodeRuneInString : Nat := 213
abbrev F.strings_ContainsRune : Nat := 214
abbrev F.unicode_utf8_DecodeLastRuneInString : Nat := 215
abbrev F.word_Nat_Twos : Nat := 216
theorem D.word_Nat_Twos : T.prog.funcs[F.word_Nat_Twos]? = some Tryz.f216 := Tryz.func216
abbrev F.word_Nat_Shr : Nat := 217
theorem D.word_Nat_Shr : T.prog.funcs[F.word_Nat_Shr]? = some Tryz.f217 := Tryz.func217
abbrev F.word_Nat_Bits : Nat := 218
theorem D.word_Nat_Bits : T.prog.funcs[F.word_Nat_Bits]? = some Tryz.f218 := Tryz.func218
abbrev F.word_Nat_GCD : Nat := 219
theorem D.word_Nat_GCD : T.prog.funcs[F.word_Nat_GCD]? = some Tryz.f219 := Tryz.func219
abbrev F.word_Nat_Div : Nat := 220
theorem D.word_Nat_Div : T.prog.funcs[F.word_Nat_Div]? = some Tryz.f220 := Tryz.func220
abbrev F.word_Nat_Mul : Nat := 221
theorem D.word_Nat_Mul : T.prog.funcs[F.word_Nat_Mul]? = some Tryz.f221 := Tryz.func221
abbrev F.word_Nat_Add : Nat := 222
theorem D.word_Nat_Add : T.prog.funcs[F.word_Nat_Add]? = some Tryz.f222 := Tryz.func222
abbrev F.word_Frac_Fits : Nat := 223
theorem D.word_Frac_Fits : T.prog.funcs[F.word_Frac_Fits]? = some Tryz.f223 := Tryz.func223
abbrev F.slices_Clone_of__of_uint32_uint32 : Nat := 224
theorem D.slices_Clone_of__of_uint32_uint32 : T.prog.funcs[F.slices_Clone_of__of_uint32_uint32]? = some Tryz.f224 := Tryz.func224
abbrev F.number_one : Nat := 225
theorem D.number_one : T.prog.funcs[F.number_one]? = some Tryz.f225 := Tryz.func225
abbrev F.number_Canon_1 : Nat := 226
theorem D.number_Canon_1 : T.prog.funcs[F.number_Canon_1]? = some Tryz.f226 := Tryz.func226
abbrev F.pref04_Reader_atom : Nat := 227
abbrev F.pref04_Reader_digits : Nat := 228
abbrev F.ref01_NatAdd : Nat := 229
theorem D.ref01_NatAdd : T.prog.funcs[F.ref01_NatAdd]? = some Tryz.f229 := Tryz.func229
abbrev F.ref01_NatMul : Nat := 230
theorem D.ref01_NatMul : T.prog.funcs[F.ref01_NatMul]? = some Tryz.f230 := Tryz.func230
abbrev F.number_decimal : Nat := 231
theorem D.number_decimal : T.prog.funcs[F.number_decimal]? = some Tryz.f231 := Tryz.func231
abbrev F.pstrings_Builder_copyCheck : Nat := 232
abbrev F.expr_level : Nat := 233
theorem D.expr_level : T.prog.funcs[F.expr_level]? = some Tryz.f233 := Tryz.func233
abbrev F.internal_strconv_Itoa : Nat := 234
abbrev F.elem_Name : Nat := 235
theorem D.elem_Name : T.prog.funcs[F.elem_Name]? = some Tryz.f235 := Tryz.func235
abbrev F.ref01_NatCmp : Nat := 236
theorem D.ref01_NatCmp : T.prog.funcs[F.ref01_NatCmp]? = some Tryz.f236 := Tryz.func236
abbrev F.ref01_NatShl : Nat := 237
theorem D.ref01_NatShl : T.prog.funcs[F.ref01_NatShl]? = some Tryz.f237 := Tryz.func237
abbrev F.ref01_digit : Nat := 238
theorem D.ref01_digit : T.prog.funcs[F.ref01_digit]? = some Tryz.f238 := Tryz.func238
abbrev F.ref01_NatShr : Nat := 239
theorem D.ref01_NatShr : T.prog.funcs[F.ref01_NatShr]? = some Tryz.f239 := Tryz.func239
abbrev F.ref01_Sum : Nat := 240
theorem D.ref01_Sum : T.prog.funcs[F.ref01_Sum]? = some Tryz.f240 := Tryz.func240
abbrev F.ref01_Opp : Nat := 241
theorem D.ref01_Opp : T.prog.funcs[F.ref01_Opp]? = some Tryz.f241 := Tryz.func241
abbrev F.word_Nat_Cmp : Nat := 242
theorem D.word_Nat_Cmp : T.prog.funcs[F.word_Nat_Cmp]? = some Tryz.f242 := Tryz.func242
abbrev F.slices_insertionSortOrdered_of_string : Nat := 243
abbrev F.slices_heapSortOrdered_of_string : Nat := 244
abbrev F.slices_breakPatternsOrdered_of_string : Nat := 245
abbrev F.slices_choosePivotOrdered_of_string : Nat := 246
abbrev F.slices_reverseRangeOrdered_of_string : Nat := 247
abbrev F.slices_partialInsertionSortOrdered_of_string : Nat := 248
abbrev F.cmp_Less_of_string : Nat := 249
abbrev F.slices_partitionEqualOrdered_of_string : Nat := 250
abbrev F.slices_partitionOrdered_of_string : Nat := 251
abbrev F.math_bits_Len32 : Nat := 252
theorem D.math_bits_Len32 : T.prog.funcs[F.math_bits_Len32]? = some Tryz.f252 := Tryz.func252
abbrev F.math_bits_Len64 : Nat := 253
abbrev F.word_Frac_Opposite : Nat := 254
abbrev F.psyntax_Parser_Next : Nat := 255
theorem D.psyntax_Parser_Next : T.prog.funcs[F.psyntax_Parser_Next]? = some Tryz.f255 := Tryz.func255
abbrev F.psyntax_Parser_kids : Nat := 256
theorem D.psyntax_Parser_kids : T.prog.funcs[F.psyntax_Parser_kids]? = some Tryz.f256 := Tryz.func256
abbrev F.psyntax_Parser_Want : Nat := 257
theorem D.psyntax_Parser_Want : T.prog.funcs[F.psyntax_Parser_Want]? = some Tryz.f257 := Tryz.func257
abbrev F.psyntax_Parser_Number : Nat := 258
theorem D.psyntax_Parser_Number : T.prog.funcs[F.psyntax_Parser_Number]? = some Tryz.f258 := Tryz.func258
abbrev F.internal_stringslite_IndexByte : Nat := 259
abbrev F.internal_bytealg_Cutover : Nat := 261
abbrev F.internal_bytealg_IndexRabinKarp_of_string : Nat := 262
abbrev F.unicode_utf8_decodeRuneInStringSlow : Nat := 263
abbrev F.strings_IndexRune : Nat := 264
abbrev F.unicode_utf8_RuneStart : Nat := 265
abbrev F.math_bits_TrailingZeros32 : Nat := 266
theorem D.math_bits_TrailingZeros32 : T.prog.funcs[F.math_bits_TrailingZeros32]? = some Tryz.f266 := Tryz.func266
abbrev F.word_Nat_DivSmall : Nat := 267
theorem D.word_Nat_DivSmall : T.prog.funcs[F.word_Nat_DivSmall]? = some Tryz.f267 := Tryz.func267
abbrev F.math_bits_LeadingZeros32 : Nat := 268
theorem D.math_bits_LeadingZeros32 : T.prog.funcs[F.math_bits_LeadingZeros32]? = some Tryz.f268 := Tryz.func268
abbrev F.word_Nat_Shl : Nat := 269
theorem D.word_Nat_Shl : T.prog.funcs[F.word_Nat_Shl]? = some Tryz.f269 := Tryz.func269
abbrev F.word_digit : Nat := 270
theorem D.word_digit : T.prog.funcs[F.word_digit]? = some Tryz.f270 := Tryz.func270
abbrev F.pref04_Reader_list : Nat := 271
abbrev F.pref04_Reader_other : Nat := 272
abbrev F.slices_Reverse_of__of_byte_byte : Nat := 273
theorem D.slices_Reverse_of__of_byte_byte : T.prog.funcs[F.slices_Reverse_of__of_byte_byte]? = some Tryz.f273 := Tryz.func273
abbrev F.internal_strconv_FormatInt : Nat := 275
abbrev F.ref01_less : Nat := 276
theorem D.ref01_less : T.prog.funcs[F.ref01_less]? = some Tryz.f276 := Tryz.func276
abbrev F.ref01_Q_den : Nat := 277
theorem D.ref01_Q_den : T.prog.funcs[F.ref01_Q_den]? = some Tryz.f277 := Tryz.func277
abbrev F.ref01_NatSub : Nat := 278
theorem D.ref01_NatSub : T.prog.funcs[F.ref01_NatSub]? = some Tryz.f278 := Tryz.func278
abbrev F.slices_siftDownOrdered_of_string : Nat := 279
abbrev F.slices_nextPowerOfTwo : Nat := 280
abbrev F.pslices_xorshift_Next : Nat := 281
abbrev F.slices_medianAdjacentOrdered_of_string : Nat := 282
abbrev F.slices_medianOrdered_of_string : Nat := 283
abbrev F.cmp_isNaN_of_string : Nat := 284
abbrev F.internal_bytealg_hashStr_of_string : Nat := 286
abbrev F.strings_IndexByte : Nat := 287
abbrev F.unicode_utf8_ValidRune : Nat := 288
abbrev F.pref04_Reader_Take : Nat := 289
abbrev F.internal_strconv_small : Nat := 290
abbrev F.internal_strconv_numDigits : Nat := 291
abbrev F.internal_strconv_formatBase10 : Nat := 292
abbrev F.internal_strconv_formatBits : Nat := 293
abbrev F.slices_order2Ordered_of_string : Nat := 294
abbrev F.internal_strconv_log10Pow2 : Nat := 295
abbrev F.internal_strconv_bool2_of_int : Nat := 296
abbrev F.internal_strconv_isPowerOfTwo : Nat := 297
abbrev F.math_bits_TrailingZeros : Nat := 298
abbrev F.math_bits_TrailingZeros64 : Nat := 299
abbrev Ty.int64 : Nat := 2
abbrev Ty.int : Nat := 3
abbrev Ty.bool : Nat := 4
abbrev Ty.uint8 : Nat := 5
abbrev Ty.int32 : Nat := 21
abbrev Ty.api_Rat : Nat := 25
abbrev Ty.api_Expr : Nat := 28
abbrev Ty.api_Errno : Nat := 29
abbrev Ty.syntax_Fault : Nat := 67
abbrev Ty.ref04_Token : Nat := 78
abbrev Ty.ref04_Reader : Nat := 82
abbrev Ty.ref01_Nat : Nat := 87
abbrev Ty.ref01_Q : Nat := 89
abbrev Ty.api_Bind : Nat := 96
abbrev Ty.syntax_Token : Nat := 115
abbrev Ty.syntax_Parser : Nat := 122
abbrev Ty.syntax_count : Nat := 131
abbrev Ty.ref04_Use : Nat := 136
abbrev Ty.uint32 : Nat := 138
abbrev Ty.uint64 : Nat := 150
abbrev Ty.word_Nat : Nat := 172
abbrev Ty.word_Frac : Nat := 174
abbrev Gl.internal_bytealg_MaxLen : Nat := 0
abbrev Gl.unicode_utf8_first : Nat := 1
abbrev Gl.unicode_utf8_acceptRanges : Nat := 2
abbrev Gl.math_bits_deBruijn32tab : Nat := 3
abbrev Gl.internal_strconv_uint64pow10 : Nat := 4
abbrev Gl.math_bits_deBruijn64tab : Nat := 5
end Go.Proofs.YtchcjbbnkcodjaaGreatDoor