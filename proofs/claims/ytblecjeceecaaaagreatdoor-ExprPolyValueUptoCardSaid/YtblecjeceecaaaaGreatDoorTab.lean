/- The tables of this seat's translation as the engine wants them: the types' shapes and zero values, the functions' numbers by name. Printed by program; every row is checked by Lean. -/
import Derived.Test.YtblecjeceecaaaaGreatDoorProg
import Derived.Test.YtblecjeceecaaaaGreatDoorVcRule
import Derived.KernelRfl
set_option linter.all false
set_option maxRecDepth 100000
namespace Go.Proofs.Y
open Go Go.Vc
inductive BT (α : Type) where
  | leaf
  | node (l : BT α) (k : Nat) (x : α) (r : BT α)
def aGq {α : Type} : BT α → Nat → Option α
  | .leaf, _ => none
  | .node l k x r, t => match Nat.beq t k with
    | true => some x
    | false => match Nat.blt t k with
      | true => aGq l t
      | false => aGq r t
def BT.toL {α : Type} : BT α → List (Nat × α)
  | .leaf => []
  | .node l k x r => l.toL ++ (k, x) :: r.toL
theorem sW {α : Type} : ∀ {b : BT α} {t : Nat} {x : α}, aGq b t = some x → (t, x) ∈ b.toL
  | .leaf, _, _, h => by simp [aGq] at h
  | .node l k y r, t, x, h => by
    simp only [aGq] at h
    split at h
    · rename_i e
      obtain rfl := Nat.eq_of_beq_eq_true e
      cases h; simp [BT.toL]
    · split at h
      · exact bJh _ (sW h)
      · exact bJi _ (bIz _ (sW h))
def bFt : BT TypeDesc := (.node (.node (.node (.node (.node (.node (.node .leaf 1 (.func #[] #[] false) .leaf) 2 (.int .i64) .leaf) 3 (.int .i64) (.node .leaf 4 (.bool) .leaf)) 5 (.int .u8) (.node (.node .leaf 9 (.string) .leaf) 22 (.slice 153) (.node .leaf 24 (.struct #[⟨"Neg", 4, 0, false, "", "", 0⟩, ⟨"Num", 22, 1, false, "", "", 8⟩, ⟨"Den", 22, 2, false, "", "", 32⟩]) .leaf))) 25 (.slice 27) (.node (.node (.node (.node .leaf 27 (.struct #[⟨"Op", 3, 0, false, "", "", 0⟩, ⟨"Arg", 3, 1, false, "", "", 8⟩, ⟨"Num", 24, 2, false, "", "", 16⟩, ⟨"Name", 9, 5, false, "", "", 72⟩, ⟨"Kids", 25, 6, false, "", "", 88⟩]) .leaf) 28 (.int .i64) .leaf) 32 (.func #[27, 27] #[4] false) (.node .leaf 36 (.slice 63) .leaf)) 39 (.slice 74) (.node (.node .leaf 42 (.slice 153) .leaf) 44 (.struct #[⟨"Neg", 4, 0, false, "", "", 0⟩, ⟨"N", 42, 1, false, "", "", 8⟩, ⟨"D", 42, 2, false, "", "", 32⟩]) (.node .leaf 58 (.slice 115) .leaf)))) 63 (.struct #[⟨"Name", 9, 0, false, "", "", 0⟩, ⟨"Num", 24, 1, false, "", "", 16⟩]) (.node (.node (.node (.node (.node .leaf 64 (.func #[24] #[24] false) .leaf) 65 (.func #[27] #[27, 28] false) .leaf) 72 (.slice 79) (.node .leaf 74 (.struct #[⟨"Coef", 24, 0, false, "", "", 0⟩, ⟨"Factors", 72, 3, false, "", "", 56⟩]) .leaf)) 79 (.struct #[⟨"Atom", 9, 0, false, "", "", 0⟩, ⟨"Exp", 3, 1, false, "", "", 16⟩]) (.node (.node .leaf 80 (.func #[74, 74] #[4] false) .leaf) 85 (.map 9 24) (.node .leaf 90 (.slice 98) .leaf))) 91 (.slice 98) (.node (.node (.node .leaf 94 (.slice 153) .leaf) 96 (.struct #[⟨"Neg", 4, 0, false, "", "", 0⟩, ⟨"Num", 94, 1, false, "", "", 8⟩, ⟨"Den", 94, 2, false, "", "", 32⟩]) (.node .leaf 98 (.struct #[⟨"coef", 96, 0, false, "", "inequality/expr", 0⟩, ⟨"factors", 72, 3, false, "", "inequality/expr", 56⟩]) .leaf)) 107 (.int .u64) (.node (.node .leaf 109 (.slice 9) .leaf) 115 (.struct #[⟨"Name", 9, 0, false, "", "", 0⟩, ⟨"E", 27, 1, false, "", "", 16⟩]) (.node .leaf 116 (.map 9 27) .leaf))))) 118 (.func #[27] #[27, 4] false) (.node (.node (.node (.node (.node (.node .leaf 126 (.slice 131) .leaf) 131 (.struct #[⟨"c", 44, 0, false, "", "inequality/inequalityref04", 0⟩, ⟨"f", 72, 3, false, "", "inequality/inequalityref04", 56⟩]) .leaf) 133 (.slice 191) (.node .leaf 136 (.pointer 198) .leaf)) 139 (.struct #[⟨"Err", 28, 0, false, "", "", 0⟩, ⟨"At", 3, 1, false, "", "", 8⟩]) (.node (.node .leaf 144 (.func #[96] #[96] false) .leaf) 146 (.slice 24) (.node .leaf 150 (.struct #[⟨"why", 28, 0, false, "", "inequality/expr", 0⟩]) .leaf))) 153 (.int .u32) (.node (.node (.node (.node .leaf 172 (.pointer 175) .leaf) 173 (.slice 5) .leaf) 175 (.struct #[⟨"addr", 172, 0, false, "", "strings", 0⟩, ⟨"buf", 173, 1, false, "", "strings", 8⟩]) (.node .leaf 191 (.struct #[⟨"Kind", 3, 0, false, "", "", 0⟩, ⟨"Text", 9, 1, false, "", "", 8⟩, ⟨"At", 3, 2, false, "", "", 24⟩]) .leaf)) 196 (.slice 205) (.node (.node .leaf 198 (.struct #[⟨"tokens", 133, 0, false, "", "inequality/syntax", 0⟩, ⟨"next", 3, 1, false, "", "inequality/syntax", 24⟩, ⟨"end", 3, 2, false, "", "inequality/syntax", 32⟩, ⟨"counts", 196, 3, false, "", "inequality/syntax", 40⟩]) .leaf) 199 (.slice 139) (.node .leaf 205 (.struct #[⟨"at", 3, 0, false, "", "inequality/syntax", 0⟩, ⟨"low", 3, 1, false, "", "inequality/syntax", 8⟩, ⟨"high", 3, 2, false, "", "inequality/syntax", 16⟩, ⟨"n", 3, 3, false, "", "inequality/syntax", 24⟩]) .leaf)))) 222 (.int .u64) (.node (.node (.node (.node (.node .leaf 253 (.pointer 5) .leaf) 267 (.array 256 4) .leaf) 271 (.pointer 267) (.node .leaf 280 (.func #[96, 96] #[96] false) .leaf)) 292 (.map 3 9) (.node (.node .leaf 306 (.func #[98, 98] #[3] false) .leaf) 308 (.func #[98] #[4] false) (.node .leaf 309 (.map 9 3) .leaf))) 310 (.slice 72) (.node (.node (.node .leaf 312 (.func #[79, 79] #[3] false) .leaf) 321 (.array 32 5) (.node .leaf 336 (.array 24 5) .leaf)) 350 (.slice 3) (.node (.node .leaf 360 (.array 20 107) .leaf) 361 (.array 65 5) (.node .leaf 371 (.array 64 5) .leaf))))))
def bFu : BT (List Value × Nat) := (.node (.node (.node (.node (.node (.node (.node .leaf 1 ([.nilFunc], 8) .leaf) 2 ([.int .i64 0], 8) .leaf) 3 ([.int .i64 0], 8) (.node .leaf 4 ([.bool false], 1) .leaf)) 5 ([.int .u8 0], 1) (.node (.node .leaf 9 ([.string ByteArray.empty], 16) .leaf) 22 ([.slice none 0 0], 24) (.node .leaf 24 ([.bool false, .slice none 0 0, .slice none 0 0], 56) .leaf))) 25 ([.slice none 0 0], 24) (.node (.node (.node (.node .leaf 27 ([.int .i64 0, .int .i64 0, .bool false, .slice none 0 0, .slice none 0 0, .string ByteArray.empty, .slice none 0 0], 112) .leaf) 28 ([.int .i64 0], 8) .leaf) 32 ([.nilFunc], 8) (.node .leaf 36 ([.slice none 0 0], 24) .leaf)) 39 ([.slice none 0 0], 24) (.node (.node .leaf 42 ([.slice none 0 0], 24) .leaf) 44 ([.bool false, .slice none 0 0, .slice none 0 0], 56) (.node .leaf 58 ([.slice none 0 0], 24) .leaf)))) 63 ([.string ByteArray.empty, .bool false, .slice none 0 0, .slice none 0 0], 72) (.node (.node (.node (.node (.node .leaf 64 ([.nilFunc], 8) .leaf) 65 ([.nilFunc], 8) .leaf) 72 ([.slice none 0 0], 24) (.node .leaf 74 ([.bool false, .slice none 0 0, .slice none 0 0, .slice none 0 0], 80) .leaf)) 79 ([.string ByteArray.empty, .int .i64 0], 24) (.node (.node .leaf 80 ([.nilFunc], 8) .leaf) 85 ([.map none], 8) (.node .leaf 90 ([.slice none 0 0], 24) .leaf))) 91 ([.slice none 0 0], 24) (.node (.node (.node .leaf 94 ([.slice none 0 0], 24) .leaf) 96 ([.bool false, .slice none 0 0, .slice none 0 0], 56) (.node .leaf 98 ([.bool false, .slice none 0 0, .slice none 0 0, .slice none 0 0], 80) .leaf)) 107 ([.int .u64 0], 8) (.node (.node .leaf 109 ([.slice none 0 0], 24) .leaf) 115 ([.string ByteArray.empty, .int .i64 0, .int .i64 0, .bool false, .slice none 0 0, .slice none 0 0, .string ByteArray.empty, .slice none 0 0], 128) (.node .leaf 116 ([.map none], 8) .leaf))))) 118 ([.nilFunc], 8) (.node (.node (.node (.node (.node (.node .leaf 126 ([.slice none 0 0], 24) .leaf) 131 ([.bool false, .slice none 0 0, .slice none 0 0, .slice none 0 0], 80) .leaf) 133 ([.slice none 0 0], 24) (.node .leaf 136 ([.pointer none], 8) .leaf)) 139 ([.int .i64 0, .int .i64 0], 16) (.node (.node .leaf 144 ([.nilFunc], 8) .leaf) 146 ([.slice none 0 0], 24) (.node .leaf 150 ([.int .i64 0], 8) .leaf))) 153 ([.int .u32 0], 4) (.node (.node (.node .leaf 172 ([.pointer none], 8) .leaf) 173 ([.slice none 0 0], 24) (.node .leaf 175 ([.pointer none, .slice none 0 0], 32) .leaf)) 191 ([.int .i64 0, .string ByteArray.empty, .int .i64 0], 32) (.node (.node .leaf 196 ([.slice none 0 0], 24) .leaf) 198 ([.slice none 0 0, .int .i64 0, .int .i64 0, .slice none 0 0], 64) (.node .leaf 199 ([.slice none 0 0], 24) .leaf)))) 205 ([.int .i64 0, .int .i64 0, .int .i64 0, .int .i64 0], 32) (.node (.node (.node (.node (.node .leaf 222 ([.int .u64 0], 8) .leaf) 253 ([.pointer none], 8) .leaf) 271 ([.pointer none], 8) (.node .leaf 280 ([.nilFunc], 8) .leaf)) 292 ([.map none], 8) (.node (.node .leaf 306 ([.nilFunc], 8) .leaf) 308 ([.nilFunc], 8) (.node .leaf 309 ([.map none], 8) .leaf))) 310 ([.slice none 0 0], 24) (.node (.node (.node .leaf 312 ([.nilFunc], 8) .leaf) 318 ([.pointer none], 8) (.node .leaf 321 ([.int .u8 0, .int .u8 0, .int .u8 0, .int .u8 0, .int .u8 0, .int .u8 0, .int .u8 0, .int .u8 0, .int .u8 0, .int .u8 0, .int .u8 0, .int .u8 0, .int .u8 0, .int .u8 0, .int .u8 0, .int .u8 0, .int .u8 0, .int .u8 0, .int .u8 0, .int .u8 0, .int .u8 0, .int .u8 0, .int .u8 0, .int .u8 0, .int .u8 0, .int .u8 0, .int .u8 0, .int .u8 0, .int .u8 0, .int .u8 0, .int .u8 0, .int .u8 0], 32) .leaf)) 336 ([.int .u8 0, .int .u8 0, .int .u8 0, .int .u8 0, .int .u8 0, .int .u8 0, .int .u8 0, .int .u8 0, .int .u8 0, .int .u8 0, .int .u8 0, .int .u8 0, .int .u8 0, .int .u8 0, .int .u8 0, .int .u8 0, .int .u8 0, .int .u8 0, .int .u8 0, .int .u8 0, .int .u8 0, .int .u8 0, .int .u8 0, .int .u8 0], 24) (.node (.node .leaf 350 ([.slice none 0 0], 24) .leaf) 360 ([.int .u64 0, .int .u64 0, .int .u64 0, .int .u64 0, .int .u64 0, .int .u64 0, .int .u64 0, .int .u64 0, .int .u64 0, .int .u64 0, .int .u64 0, .int .u64 0, .int .u64 0, .int .u64 0, .int .u64 0, .int .u64 0, .int .u64 0, .int .u64 0, .int .u64 0, .int .u64 0], 160) (.node .leaf 371 ([.int .u8 0, .int .u8 0, .int .u8 0, .int .u8 0, .int .u8 0, .int .u8 0, .int .u8 0, .int .u8 0, .int .u8 0, .int .u8 0, .int .u8 0, .int .u8 0, .int .u8 0, .int .u8 0, .int .u8 0, .int .u8 0, .int .u8 0, .int .u8 0, .int .u8 0, .int .u8 0, .int .u8 0, .int .u8 0, .int .u8 0, .int .u8 0, .int .u8 0, .int .u8 0, .int .u8 0, .int .u8 0, .int .u8 0, .int .u8 0, .int .u8 0, .int .u8 0, .int .u8 0, .int .u8 0, .int .u8 0, .int .u8 0, .int .u8 0, .int .u8 0, .int .u8 0, .int .u8 0, .int .u8 0, .int .u8 0, .int .u8 0, .int .u8 0, .int .u8 0, .int .u8 0, .int .u8 0, .int .u8 0, .int .u8 0, .int .u8 0, .int .u8 0, .int .u8 0, .int .u8 0, .int .u8 0, .int .u8 0, .int .u8 0, .int .u8 0, .int .u8 0, .int .u8 0, .int .u8 0, .int .u8 0, .int .u8 0, .int .u8 0, .int .u8 0], 64) .leaf))))))
def fnB : BT Unit := (.node (.node (.node (.node (.node (.node (.node (.node (.node .leaf 3 () .leaf) 4 () .leaf) 5 () (.node .leaf 6 () .leaf)) 7 () (.node (.node .leaf 9 () .leaf) 11 () (.node .leaf 12 () .leaf))) 13 () (.node (.node (.node .leaf 14 () .leaf) 15 () (.node .leaf 16 () .leaf)) 17 () (.node (.node .leaf 18 () .leaf) 19 () (.node .leaf 20 () .leaf)))) 21 () (.node (.node (.node (.node (.node .leaf 22 () .leaf) 23 () .leaf) 24 () (.node .leaf 27 () .leaf)) 28 () (.node (.node .leaf 33 () .leaf) 36 () (.node .leaf 37 () .leaf))) 38 () (.node (.node (.node .leaf 39 () .leaf) 40 () (.node .leaf 41 () .leaf)) 42 () (.node (.node .leaf 43 () .leaf) 44 () (.node .leaf 45 () .leaf))))) 46 () (.node (.node (.node (.node (.node (.node .leaf 47 () .leaf) 48 () .leaf) 49 () (.node .leaf 50 () .leaf)) 51 () (.node (.node .leaf 52 () .leaf) 53 () (.node .leaf 54 () .leaf))) 55 () (.node (.node (.node .leaf 56 () .leaf) 57 () (.node .leaf 58 () .leaf)) 59 () (.node (.node .leaf 60 () .leaf) 61 () (.node .leaf 62 () .leaf)))) 64 () (.node (.node (.node (.node (.node .leaf 68 () .leaf) 69 () .leaf) 70 () (.node .leaf 71 () .leaf)) 73 () (.node (.node .leaf 75 () .leaf) 76 () (.node .leaf 77 () .leaf))) 78 () (.node (.node (.node .leaf 79 () .leaf) 80 () (.node .leaf 81 () .leaf)) 82 () (.node (.node .leaf 83 () .leaf) 84 () (.node .leaf 85 () .leaf)))))) 86 () (.node (.node (.node (.node (.node (.node (.node .leaf 87 () .leaf) 88 () .leaf) 89 () (.node .leaf 90 () .leaf)) 91 () (.node (.node .leaf 92 () .leaf) 93 () (.node .leaf 94 () .leaf))) 95 () (.node (.node (.node .leaf 96 () .leaf) 97 () (.node .leaf 98 () .leaf)) 99 () (.node (.node .leaf 100 () .leaf) 101 () (.node .leaf 102 () .leaf)))) 103 () (.node (.node (.node (.node (.node .leaf 104 () .leaf) 105 () .leaf) 106 () (.node .leaf 107 () .leaf)) 108 () (.node (.node .leaf 109 () .leaf) 110 () (.node .leaf 111 () .leaf))) 112 () (.node (.node (.node .leaf 119 () .leaf) 124 () (.node .leaf 126 () .leaf)) 127 () (.node (.node .leaf 128 () .leaf) 129 () (.node .leaf 130 () .leaf))))) 131 () (.node (.node (.node (.node (.node (.node .leaf 132 () .leaf) 133 () .leaf) 134 () (.node .leaf 135 () .leaf)) 136 () (.node (.node .leaf 137 () .leaf) 138 () (.node .leaf 139 () .leaf))) 140 () (.node (.node (.node .leaf 141 () .leaf) 142 () (.node .leaf 143 () .leaf)) 144 () (.node (.node .leaf 145 () .leaf) 146 () (.node .leaf 147 () .leaf)))) 148 () (.node (.node (.node (.node (.node .leaf 149 () .leaf) 150 () .leaf) 151 () (.node .leaf 152 () .leaf)) 153 () (.node (.node .leaf 154 () .leaf) 155 () (.node .leaf 156 () .leaf))) 157 () (.node (.node (.node .leaf 158 () .leaf) 159 () (.node .leaf 160 () .leaf)) 161 () (.node (.node .leaf 162 () .leaf) 163 () (.node .leaf 164 () .leaf))))))) 165 () (.node (.node (.node (.node (.node (.node (.node (.node .leaf 166 () .leaf) 167 () .leaf) 168 () (.node .leaf 169 () .leaf)) 170 () (.node (.node .leaf 171 () .leaf) 172 () (.node .leaf 173 () .leaf))) 174 () (.node (.node (.node .leaf 175 () .leaf) 176 () (.node .leaf 177 () .leaf)) 178 () (.node (.node .leaf 179 () .leaf) 180 () (.node .leaf 181 () .leaf)))) 182 () (.node (.node (.node (.node (.node .leaf 183 () .leaf) 187 () .leaf) 188 () (.node .leaf 189 () .leaf)) 204 () (.node (.node .leaf 205 () .leaf) 206 () (.node .leaf 207 () .leaf))) 208 () (.node (.node (.node .leaf 209 () .leaf) 210 () (.node .leaf 211 () .leaf)) 212 () (.node (.node .leaf 213 () .leaf) 214 () (.node .leaf 215 () .leaf))))) 216 () (.node (.node (.node (.node (.node (.node .leaf 217 () .leaf) 218 () .leaf) 219 () (.node .leaf 220 () .leaf)) 221 () (.node (.node .leaf 222 () .leaf) 223 () (.node .leaf 224 () .leaf))) 225 () (.node (.node (.node .leaf 226 () .leaf) 227 () (.node .leaf 228 () .leaf)) 229 () (.node (.node .leaf 230 () .leaf) 231 () (.node .leaf 232 () .leaf)))) 233 () (.node (.node (.node (.node (.node .leaf 239 () .leaf) 240 () .leaf) 241 () (.node .leaf 242 () .leaf)) 243 () (.node (.node .leaf 244 () .leaf) 245 () (.node .leaf 246 () .leaf))) 247 () (.node (.node (.node .leaf 248 () .leaf) 249 () (.node .leaf 250 () .leaf)) 251 () (.node (.node .leaf 252 () .leaf) 253 () (.node .leaf 254 () .leaf)))))) 255 () (.node (.node (.node (.node (.node (.node (.node .leaf 256 () .leaf) 270 () .leaf) 271 () (.node .leaf 272 () .leaf)) 273 () (.node (.node .leaf 274 () .leaf) 275 () (.node .leaf 276 () .leaf))) 277 () (.node (.node (.node .leaf 278 () .leaf) 279 () (.node .leaf 280 () .leaf)) 281 () (.node (.node .leaf 282 () .leaf) 283 () (.node .leaf 284 () .leaf)))) 285 () (.node (.node (.node (.node (.node .leaf 286 () .leaf) 287 () .leaf) 292 () (.node .leaf 293 () .leaf)) 294 () (.node (.node .leaf 295 () .leaf) 296 () (.node .leaf 297 () .leaf))) 298 () (.node (.node (.node .leaf 299 () .leaf) 300 () (.node .leaf 301 () .leaf)) 302 () (.node (.node .leaf 303 () .leaf) 304 () (.node .leaf 305 () .leaf))))) 306 () (.node (.node (.node (.node (.node (.node .leaf 307 () .leaf) 308 () .leaf) 315 () (.node .leaf 317 () .leaf)) 318 () (.node (.node .leaf 319 () .leaf) 320 () (.node .leaf 321 () .leaf))) 322 () (.node (.node (.node .leaf 329 () .leaf) 330 () (.node .leaf 331 () .leaf)) 332 () (.node (.node .leaf 333 () .leaf) 334 () (.node .leaf 337 () .leaf)))) 338 () (.node (.node (.node (.node (.node .leaf 341 () .leaf) 342 () .leaf) 343 () (.node .leaf 344 () .leaf)) 349 () (.node (.node .leaf 350 () .leaf) 351 () (.node .leaf 360 () .leaf))) 361 () (.node (.node (.node .leaf 364 () .leaf) 365 () (.node .leaf 366 () .leaf)) 367 () (.node (.node .leaf 368 () .leaf) 375 () (.node .leaf 376 () .leaf))))))))
def BT.All {α : Type} (p : Nat × α → Prop) : BT α → Prop
  | .leaf => True
  | .node l k x r => l.All p ∧ p (k, x) ∧ r.All p
theorem lf {α : Type} {p : Nat × α → Prop} : BT.All p .leaf := trivial
theorem nd {α : Type} {p : Nat × α → Prop} {l r : BT α} {k : Nat} {x : α} (a : l.All p) (b : p (k, x)) (c : r.All p) : BT.All p (.node l k x r) := ⟨a, b, c⟩
theorem BT.all_mem {α : Type} {p : Nat × α → Prop} {y : Nat × α} : ∀ {b : BT α}, b.All p → y ∈ b.toL → p y
  | .leaf, _, h => by cases h
  | .node l k x r, ⟨h1, h2, h3⟩, h => by
    rw [BT.toL] at h
    rcases bIx.1 h with h | h
    · exact BT.all_mem h1 h
    · rcases bI7.1 h with rfl | h
      · exact h2
      · exact BT.all_mem h3 h
noncomputable def T : Tab := { prog := Tryz.prog, und := aGq bFt, inf := aGq bFu, fn := fun f => (aGq fnB f).isSome, room := False }
theorem bFv : bFt.All fun x => Tryz.prog.underlying x.1 = some x.2 := (nd (nd (nd (nd (nd (nd (nd lf Tryz.underlying1 lf) Tryz.underlying2 lf) Tryz.underlying3 (nd lf Tryz.underlying4 lf)) Tryz.underlying5 (nd (nd lf Tryz.underlying9 lf) Tryz.underlying22 (nd lf Tryz.underlying24 lf))) Tryz.underlying25 (nd (nd (nd (nd lf Tryz.underlying27 lf) Tryz.underlying28 lf) Tryz.underlying32 (nd lf Tryz.underlying36 lf)) Tryz.underlying39 (nd (nd lf Tryz.underlying42 lf) Tryz.underlying44 (nd lf Tryz.underlying58 lf)))) Tryz.underlying63 (nd (nd (nd (nd (nd lf Tryz.underlying64 lf) Tryz.underlying65 lf) Tryz.underlying72 (nd lf Tryz.underlying74 lf)) Tryz.underlying79 (nd (nd lf Tryz.underlying80 lf) Tryz.underlying85 (nd lf Tryz.underlying90 lf))) Tryz.underlying91 (nd (nd (nd lf Tryz.underlying94 lf) Tryz.underlying96 (nd lf Tryz.underlying98 lf)) Tryz.underlying107 (nd (nd lf Tryz.underlying109 lf) Tryz.underlying115 (nd lf Tryz.underlying116 lf))))) Tryz.underlying118 (nd (nd (nd (nd (nd (nd lf Tryz.underlying126 lf) Tryz.underlying131 lf) Tryz.underlying133 (nd lf Tryz.underlying136 lf)) Tryz.underlying139 (nd (nd lf Tryz.underlying144 lf) Tryz.underlying146 (nd lf Tryz.underlying150 lf))) Tryz.underlying153 (nd (nd (nd (nd lf Tryz.underlying172 lf) Tryz.underlying173 lf) Tryz.underlying175 (nd lf Tryz.underlying191 lf)) Tryz.underlying196 (nd (nd lf Tryz.underlying198 lf) Tryz.underlying199 (nd lf Tryz.underlying205 lf)))) Tryz.underlying222 (nd (nd (nd (nd (nd lf Tryz.underlying253 lf) Tryz.underlying267 lf) Tryz.underlying271 (nd lf Tryz.underlying280 lf)) Tryz.underlying292 (nd (nd lf Tryz.underlying306 lf) Tryz.underlying308 (nd lf Tryz.underlying309 lf))) Tryz.underlying310 (nd (nd (nd lf Tryz.underlying312 lf) Tryz.underlying321 (nd lf Tryz.underlying336 lf)) Tryz.underlying350 (nd (nd lf Tryz.underlying360 lf) Tryz.underlying361 (nd lf Tryz.underlying371 lf))))))
theorem bFw : bFu.All fun x => ∃ i v, Tryz.prog.info? x.1 = some i ∧ i.zero = some v ∧ v.cells = x.2.1.toArray ∧ i.size = x.2.1.length ∧ i.bytes = x.2.2 := (nd (nd (nd (nd (nd (nd (nd lf ⟨Tryz.t1, _, by kernel_rfl, rfl, rfl, rfl, rfl⟩ lf) ⟨Tryz.t2, _, by kernel_rfl, rfl, rfl, rfl, rfl⟩ lf) ⟨Tryz.t3, _, by kernel_rfl, rfl, rfl, rfl, rfl⟩ (nd lf ⟨Tryz.t4, _, by kernel_rfl, rfl, rfl, rfl, rfl⟩ lf)) ⟨Tryz.t5, _, by kernel_rfl, rfl, rfl, rfl, rfl⟩ (nd (nd lf ⟨Tryz.t9, _, by kernel_rfl, rfl, rfl, rfl, rfl⟩ lf) ⟨Tryz.t22, _, by kernel_rfl, rfl, rfl, rfl, rfl⟩ (nd lf ⟨Tryz.t24, _, by kernel_rfl, rfl, rfl, rfl, rfl⟩ lf))) ⟨Tryz.t25, _, by kernel_rfl, rfl, rfl, rfl, rfl⟩ (nd (nd (nd (nd lf ⟨Tryz.t27, _, by kernel_rfl, rfl, rfl, rfl, rfl⟩ lf) ⟨Tryz.t28, _, by kernel_rfl, rfl, rfl, rfl, rfl⟩ lf) ⟨Tryz.t32, _, by kernel_rfl, rfl, rfl, rfl, rfl⟩ (nd lf ⟨Tryz.t36, _, by kernel_rfl, rfl, rfl, rfl, rfl⟩ lf)) ⟨Tryz.t39, _, by kernel_rfl, rfl, rfl, rfl, rfl⟩ (nd (nd lf ⟨Tryz.t42, _, by kernel_rfl, rfl, rfl, rfl, rfl⟩ lf) ⟨Tryz.t44, _, by kernel_rfl, rfl, rfl, rfl, rfl⟩ (nd lf ⟨Tryz.t58, _, by kernel_rfl, rfl, rfl, rfl, rfl⟩ lf)))) ⟨Tryz.t63, _, by kernel_rfl, rfl, rfl, rfl, rfl⟩ (nd (nd (nd (nd (nd lf ⟨Tryz.t64, _, by kernel_rfl, rfl, rfl, rfl, rfl⟩ lf) ⟨Tryz.t65, _, by kernel_rfl, rfl, rfl, rfl, rfl⟩ lf) ⟨Tryz.t72, _, by kernel_rfl, rfl, rfl, rfl, rfl⟩ (nd lf ⟨Tryz.t74, _, by kernel_rfl, rfl, rfl, rfl, rfl⟩ lf)) ⟨Tryz.t79, _, by kernel_rfl, rfl, rfl, rfl, rfl⟩ (nd (nd lf ⟨Tryz.t80, _, by kernel_rfl, rfl, rfl, rfl, rfl⟩ lf) ⟨Tryz.t85, _, by kernel_rfl, rfl, rfl, rfl, rfl⟩ (nd lf ⟨Tryz.t90, _, by kernel_rfl, rfl, rfl, rfl, rfl⟩ lf))) ⟨Tryz.t91, _, by kernel_rfl, rfl, rfl, rfl, rfl⟩ (nd (nd (nd lf ⟨Tryz.t94, _, by kernel_rfl, rfl, rfl, rfl, rfl⟩ lf) ⟨Tryz.t96, _, by kernel_rfl, rfl, rfl, rfl, rfl⟩ (nd lf ⟨Tryz.t98, _, by kernel_rfl, rfl, rfl, rfl, rfl⟩ lf)) ⟨Tryz.t107, _, by kernel_rfl, rfl, rfl, rfl, rfl⟩ (nd (nd lf ⟨Tryz.t109, _, by kernel_rfl, rfl, rfl, rfl, rfl⟩ lf) ⟨Tryz.t115, _, by kernel_rfl, rfl, rfl, rfl, rfl⟩ (nd lf ⟨Tryz.t116, _, by kernel_rfl, rfl, rfl, rfl, rfl⟩ lf))))) ⟨Tryz.t118, _, by kernel_rfl, rfl, rfl, rfl, rfl⟩ (nd (nd (nd (nd (nd (nd lf ⟨Tryz.t126, _, by kernel_rfl, rfl, rfl, rfl, rfl⟩ lf) ⟨Tryz.t131, _, by kernel_rfl, rfl, rfl, rfl, rfl⟩ lf) ⟨Tryz.t133, _, by kernel_rfl, rfl, rfl, rfl, rfl⟩ (nd lf ⟨Tryz.t136, _, by kernel_rfl, rfl, rfl, rfl, rfl⟩ lf)) ⟨Tryz.t139, _, by kernel_rfl, rfl, rfl, rfl, rfl⟩ (nd (nd lf ⟨Tryz.t144, _, by kernel_rfl, rfl, rfl, rfl, rfl⟩ lf) ⟨Tryz.t146, _, by kernel_rfl, rfl, rfl, rfl, rfl⟩ (nd lf ⟨Tryz.t150, _, by kernel_rfl, rfl, rfl, rfl, rfl⟩ lf))) ⟨Tryz.t153, _, by kernel_rfl, rfl, rfl, rfl, rfl⟩ (nd (nd (nd lf ⟨Tryz.t172, _, by kernel_rfl, rfl, rfl, rfl, rfl⟩ lf) ⟨Tryz.t173, _, by kernel_rfl, rfl, rfl, rfl, rfl⟩ (nd lf ⟨Tryz.t175, _, by kernel_rfl, rfl, rfl, rfl, rfl⟩ lf)) ⟨Tryz.t191, _, by kernel_rfl, rfl, rfl, rfl, rfl⟩ (nd (nd lf ⟨Tryz.t196, _, by kernel_rfl, rfl, rfl, rfl, rfl⟩ lf) ⟨Tryz.t198, _, by kernel_rfl, rfl, rfl, rfl, rfl⟩ (nd lf ⟨Tryz.t199, _, by kernel_rfl, rfl, rfl, rfl, rfl⟩ lf)))) ⟨Tryz.t205, _, by kernel_rfl, rfl, rfl, rfl, rfl⟩ (nd (nd (nd (nd (nd lf ⟨Tryz.t222, _, by kernel_rfl, rfl, rfl, rfl, rfl⟩ lf) ⟨Tryz.t253, _, by kernel_rfl, rfl, rfl, rfl, rfl⟩ lf) ⟨Tryz.t271, _, by kernel_rfl, rfl, rfl, rfl, rfl⟩ (nd lf ⟨Tryz.t280, _, by kernel_rfl, rfl, rfl, rfl, rfl⟩ lf)) ⟨Tryz.t292, _, by kernel_rfl, rfl, rfl, rfl, rfl⟩ (nd (nd lf ⟨Tryz.t306, _, by kernel_rfl, rfl, rfl, rfl, rfl⟩ lf) ⟨Tryz.t308, _, by kernel_rfl, rfl, rfl, rfl, rfl⟩ (nd lf ⟨Tryz.t309, _, by kernel_rfl, rfl, rfl, rfl, rfl⟩ lf))) ⟨Tryz.t310, _, by kernel_rfl, rfl, rfl, rfl, rfl⟩ (nd (nd (nd lf ⟨Tryz.t312, _, by kernel_rfl, rfl, rfl, rfl, rfl⟩ lf) ⟨Tryz.t318, _, by kernel_rfl, rfl, rfl, rfl, rfl⟩ (nd lf ⟨Tryz.t321, _, by kernel_rfl, rfl, rfl, rfl, rfl⟩ lf)) ⟨Tryz.t336, _, by kernel_rfl, rfl, rfl, rfl, rfl⟩ (nd (nd lf ⟨Tryz.t350, _, by kernel_rfl, rfl, rfl, rfl, rfl⟩ lf) ⟨Tryz.t360, _, by kernel_rfl, rfl, rfl, rfl, rfl⟩ (nd lf ⟨Tryz.t371, _, by kernel_rfl, rfl, rfl, rfl, rfl⟩ lf))))))
theorem bHm : fnB.All fun x => ∀ args w, (callFunc x.1 args).run Tryz.prog w = .ok (.enter x.1 args) w := (nd (nd (nd (nd (nd (nd (nd (nd (nd lf Tryz.call3 lf) Tryz.call4 lf) Tryz.call5 (nd lf Tryz.call6 lf)) Tryz.call7 (nd (nd lf Tryz.call9 lf) Tryz.call11 (nd lf Tryz.call12 lf))) Tryz.call13 (nd (nd (nd lf Tryz.call14 lf) Tryz.call15 (nd lf Tryz.call16 lf)) Tryz.call17 (nd (nd lf Tryz.call18 lf) Tryz.call19 (nd lf Tryz.call20 lf)))) Tryz.call21 (nd (nd (nd (nd (nd lf Tryz.call22 lf) Tryz.call23 lf) Tryz.call24 (nd lf Tryz.call27 lf)) Tryz.call28 (nd (nd lf Tryz.call33 lf) Tryz.call36 (nd lf Tryz.call37 lf))) Tryz.call38 (nd (nd (nd lf Tryz.call39 lf) Tryz.call40 (nd lf Tryz.call41 lf)) Tryz.call42 (nd (nd lf Tryz.call43 lf) Tryz.call44 (nd lf Tryz.call45 lf))))) Tryz.call46 (nd (nd (nd (nd (nd (nd lf Tryz.call47 lf) Tryz.call48 lf) Tryz.call49 (nd lf Tryz.call50 lf)) Tryz.call51 (nd (nd lf Tryz.call52 lf) Tryz.call53 (nd lf Tryz.call54 lf))) Tryz.call55 (nd (nd (nd lf Tryz.call56 lf) Tryz.call57 (nd lf Tryz.call58 lf)) Tryz.call59 (nd (nd lf Tryz.call60 lf) Tryz.call61 (nd lf Tryz.call62 lf)))) Tryz.call64 (nd (nd (nd (nd (nd lf Tryz.call68 lf) Tryz.call69 lf) Tryz.call70 (nd lf Tryz.call71 lf)) Tryz.call73 (nd (nd lf Tryz.call75 lf) Tryz.call76 (nd lf Tryz.call77 lf))) Tryz.call78 (nd (nd (nd lf Tryz.call79 lf) Tryz.call80 (nd lf Tryz.call81 lf)) Tryz.call82 (nd (nd lf Tryz.call83 lf) Tryz.call84 (nd lf Tryz.call85 lf)))))) Tryz.call86 (nd (nd (nd (nd (nd (nd (nd lf Tryz.call87 lf) Tryz.call88 lf) Tryz.call89 (nd lf Tryz.call90 lf)) Tryz.call91 (nd (nd lf Tryz.call92 lf) Tryz.call93 (nd lf Tryz.call94 lf))) Tryz.call95 (nd (nd (nd lf Tryz.call96 lf) Tryz.call97 (nd lf Tryz.call98 lf)) Tryz.call99 (nd (nd lf Tryz.call100 lf) Tryz.call101 (nd lf Tryz.call102 lf)))) Tryz.call103 (nd (nd (nd (nd (nd lf Tryz.call104 lf) Tryz.call105 lf) Tryz.call106 (nd lf Tryz.call107 lf)) Tryz.call108 (nd (nd lf Tryz.call109 lf) Tryz.call110 (nd lf Tryz.call111 lf))) Tryz.call112 (nd (nd (nd lf Tryz.call119 lf) Tryz.call124 (nd lf Tryz.call126 lf)) Tryz.call127 (nd (nd lf Tryz.call128 lf) Tryz.call129 (nd lf Tryz.call130 lf))))) Tryz.call131 (nd (nd (nd (nd (nd (nd lf Tryz.call132 lf) Tryz.call133 lf) Tryz.call134 (nd lf Tryz.call135 lf)) Tryz.call136 (nd (nd lf Tryz.call137 lf) Tryz.call138 (nd lf Tryz.call139 lf))) Tryz.call140 (nd (nd (nd lf Tryz.call141 lf) Tryz.call142 (nd lf Tryz.call143 lf)) Tryz.call144 (nd (nd lf Tryz.call145 lf) Tryz.call146 (nd lf Tryz.call147 lf)))) Tryz.call148 (nd (nd (nd (nd (nd lf Tryz.call149 lf) Tryz.call150 lf) Tryz.call151 (nd lf Tryz.call152 lf)) Tryz.call153 (nd (nd lf Tryz.call154 lf) Tryz.call155 (nd lf Tryz.call156 lf))) Tryz.call157 (nd (nd (nd lf Tryz.call158 lf) Tryz.call159 (nd lf Tryz.call160 lf)) Tryz.call161 (nd (nd lf Tryz.call162 lf) Tryz.call163 (nd lf Tryz.call164 lf))))))) Tryz.call165 (nd (nd (nd (nd (nd (nd (nd (nd lf Tryz.call166 lf) Tryz.call167 lf) Tryz.call168 (nd lf Tryz.call169 lf)) Tryz.call170 (nd (nd lf Tryz.call171 lf) Tryz.call172 (nd lf Tryz.call173 lf))) Tryz.call174 (nd (nd (nd lf Tryz.call175 lf) Tryz.call176 (nd lf Tryz.call177 lf)) Tryz.call178 (nd (nd lf Tryz.call179 lf) Tryz.call180 (nd lf Tryz.call181 lf)))) Tryz.call182 (nd (nd (nd (nd (nd lf Tryz.call183 lf) Tryz.call187 lf) Tryz.call188 (nd lf Tryz.call189 lf)) Tryz.call204 (nd (nd lf Tryz.call205 lf) Tryz.call206 (nd lf Tryz.call207 lf))) Tryz.call208 (nd (nd (nd lf Tryz.call209 lf) Tryz.call210 (nd lf Tryz.call211 lf)) Tryz.call212 (nd (nd lf Tryz.call213 lf) Tryz.call214 (nd lf Tryz.call215 lf))))) Tryz.call216 (nd (nd (nd (nd (nd (nd lf Tryz.call217 lf) Tryz.call218 lf) Tryz.call219 (nd lf Tryz.call220 lf)) Tryz.call221 (nd (nd lf Tryz.call222 lf) Tryz.call223 (nd lf Tryz.call224 lf))) Tryz.call225 (nd (nd (nd lf Tryz.call226 lf) Tryz.call227 (nd lf Tryz.call228 lf)) Tryz.call229 (nd (nd lf Tryz.call230 lf) Tryz.call231 (nd lf Tryz.call232 lf)))) Tryz.call233 (nd (nd (nd (nd (nd lf Tryz.call239 lf) Tryz.call240 lf) Tryz.call241 (nd lf Tryz.call242 lf)) Tryz.call243 (nd (nd lf Tryz.call244 lf) Tryz.call245 (nd lf Tryz.call246 lf))) Tryz.call247 (nd (nd (nd lf Tryz.call248 lf) Tryz.call249 (nd lf Tryz.call250 lf)) Tryz.call251 (nd (nd lf Tryz.call252 lf) Tryz.call253 (nd lf Tryz.call254 lf)))))) Tryz.call255 (nd (nd (nd (nd (nd (nd (nd lf Tryz.call256 lf) Tryz.call270 lf) Tryz.call271 (nd lf Tryz.call272 lf)) Tryz.call273 (nd (nd lf Tryz.call274 lf) Tryz.call275 (nd lf Tryz.call276 lf))) Tryz.call277 (nd (nd (nd lf Tryz.call278 lf) Tryz.call279 (nd lf Tryz.call280 lf)) Tryz.call281 (nd (nd lf Tryz.call282 lf) Tryz.call283 (nd lf Tryz.call284 lf)))) Tryz.call285 (nd (nd (nd (nd (nd lf Tryz.call286 lf) Tryz.call287 lf) Tryz.call292 (nd lf Tryz.call293 lf)) Tryz.call294 (nd (nd lf Tryz.call295 lf) Tryz.call296 (nd lf Tryz.call297 lf))) Tryz.call298 (nd (nd (nd lf Tryz.call299 lf) Tryz.call300 (nd lf Tryz.call301 lf)) Tryz.call302 (nd (nd lf Tryz.call303 lf) Tryz.call304 (nd lf Tryz.call305 lf))))) Tryz.call306 (nd (nd (nd (nd (nd (nd lf Tryz.call307 lf) Tryz.call308 lf) Tryz.call315 (nd lf Tryz.call317 lf)) Tryz.call318 (nd (nd lf Tryz.call319 lf) Tryz.call320 (nd lf Tryz.call321 lf))) Tryz.call322 (nd (nd (nd lf Tryz.call329 lf) Tryz.call330 (nd lf Tryz.call331 lf)) Tryz.call332 (nd (nd lf Tryz.call333 lf) Tryz.call334 (nd lf Tryz.call337 lf)))) Tryz.call338 (nd (nd (nd (nd (nd lf Tryz.call341 lf) Tryz.call342 lf) Tryz.call343 (nd lf Tryz.call344 lf)) Tryz.call349 (nd (nd lf Tryz.call350 lf) Tryz.call351 (nd lf Tryz.call360 lf))) Tryz.call361 (nd (nd (nd lf Tryz.call364 lf) Tryz.call365 (nd lf Tryz.call366 lf)) Tryz.call367 (nd (nd lf Tryz.call368 lf) Tryz.call375 (nd lf Tryz.call376 lf))))))))
theorem bAh : Tryz.prog.follows .mixedOrders = true := by kernel_rfl
theorem ok : T.Ok where
  und t d h := BT.all_mem (y := (t, d)) bFv (sW h)
  inf t z n h := BT.all_mem (y := (t, (z, n))) bFw (sW h)
  fn f h args w := by
    obtain ⟨x, hx⟩ := Option.isSome_iff_exists.1 (show (aGq fnB f).isSome = true from h)
    exact BT.all_mem bHm (sW hx) args w
  mixed := bAh
abbrev F.q3 : Nat := 3
theorem D.q3 : T.prog.funcs[F.q3]? = some Tryz.f3 := Tryz.func3
abbrev F.q4 : Nat := 4
theorem D.q4 : T.prog.funcs[F.q4]? = some Tryz.f4 := Tryz.func4
abbrev F.q5 : Nat := 5
theorem D.q5 : T.prog.funcs[F.q5]? = some Tryz.f5 := Tryz.func5
abbrev F.q6 : Nat := 6
theorem D.q6 : T.prog.funcs[F.q6]? = some Tryz.f6 := Tryz.func6
abbrev F.q7 : Nat := 7
theorem D.q7 : T.prog.funcs[F.q7]? = some Tryz.f7 := Tryz.func7
abbrev F.q9 : Nat := 9
theorem D.q9 : T.prog.funcs[F.q9]? = some Tryz.f9 := Tryz.func9
abbrev F.q11 : Nat := 11
theorem D.q11 : T.prog.funcs[F.q11]? = some Tryz.f11 := Tryz.func11
abbrev F.q12 : Nat := 12
theorem D.q12 : T.prog.funcs[F.q12]? = some Tryz.f12 := Tryz.func12
abbrev F.q13 : Nat := 13
theorem D.q13 : T.prog.funcs[F.q13]? = some Tryz.f13 := Tryz.func13
abbrev F.q14 : Nat := 14
theorem D.q14 : T.prog.funcs[F.q14]? = some Tryz.f14 := Tryz.func14
abbrev F.q15 : Nat := 15
theorem D.q15 : T.prog.funcs[F.q15]? = some Tryz.f15 := Tryz.func15
abbrev F.q16 : Nat := 16
theorem D.q16 : T.prog.funcs[F.q16]? = some Tryz.f16 := Tryz.func16
abbrev F.q17 : Nat := 17
theorem D.q17 : T.prog.funcs[F.q17]? = some Tryz.f17 := Tryz.func17
abbrev F.q18 : Nat := 18
theorem D.q18 : T.prog.funcs[F.q18]? = some Tryz.f18 := Tryz.func18
abbrev F.q19 : Nat := 19
theorem D.q19 : T.prog.funcs[F.q19]? = some Tryz.f19 := Tryz.func19
abbrev F.q20 : Nat := 20
theorem D.q20 : T.prog.funcs[F.q20]? = some Tryz.f20 := Tryz.func20
abbrev F.q21 : Nat := 21
theorem D.q21 : T.prog.funcs[F.q21]? = some Tryz.f21 := Tryz.func21
abbrev F.q22 : Nat := 22
theorem D.q22 : T.prog.funcs[F.q22]? = some Tryz.f22 := Tryz.func22
abbrev F.q23 : Nat := 23
theorem D.q23 : T.prog.funcs[F.q23]? = some Tryz.f23 := Tryz.func23
abbrev F.q24 : Nat := 24
theorem D.q24 : T.prog.funcs[F.q24]? = some Tryz.f24 := Tryz.func24
abbrev F.q27 : Nat := 27
theorem D.q27 : T.prog.funcs[F.q27]? = some Tryz.f27 := Tryz.func27
abbrev F.q28 : Nat := 28
theorem D.q28 : T.prog.funcs[F.q28]? = some Tryz.f28 := Tryz.func28
abbrev F.q33 : Nat := 33
theorem D.q33 : T.prog.funcs[F.q33]? = some Tryz.f33 := Tryz.func33
abbrev F.q36 : Nat := 36
theorem D.q36 : T.prog.funcs[F.q36]? = some Tryz.f36 := Tryz.func36
abbrev F.q37 : Nat := 37
theorem D.q37 : T.prog.funcs[F.q37]? = some Tryz.f37 := Tryz.func37
abbrev F.q38 : Nat := 38
theorem D.q38 : T.prog.funcs[F.q38]? = some Tryz.f38 := Tryz.func38
abbrev F.q39 : Nat := 39
theorem D.q39 : T.prog.funcs[F.q39]? = some Tryz.f39 := Tryz.func39
abbrev F.q40 : Nat := 40
theorem D.q40 : T.prog.funcs[F.q40]? = some Tryz.f40 := Tryz.func40
abbrev F.q41 : Nat := 41
theorem D.q41 : T.prog.funcs[F.q41]? = some Tryz.f41 := Tryz.func41
abbrev F.q42 : Nat := 42
theorem D.q42 : T.prog.funcs[F.q42]? = some Tryz.f42 := Tryz.func42
abbrev F.q43 : Nat := 43
theorem D.q43 : T.prog.funcs[F.q43]? = some Tryz.f43 := Tryz.func43
abbrev F.q44 : Nat := 44
theorem D.q44 : T.prog.funcs[F.q44]? = some Tryz.f44 := Tryz.func44
abbrev F.q45 : Nat := 45
theorem D.q45 : T.prog.funcs[F.q45]? = some Tryz.f45 := Tryz.func45
abbrev F.q46 : Nat := 46
theorem D.q46 : T.prog.funcs[F.q46]? = some Tryz.f46 := Tryz.func46
abbrev F.q47 : Nat := 47
theorem D.q47 : T.prog.funcs[F.q47]? = some Tryz.f47 := Tryz.func47
abbrev F.q48 : Nat := 48
abbrev F.q49 : Nat := 49
theorem D.q49 : T.prog.funcs[F.q49]? = some Tryz.f49 := Tryz.func49
abbrev F.q50 : Nat := 50
theorem D.q50 : T.prog.funcs[F.q50]? = some Tryz.f50 := Tryz.func50
abbrev F.q51 : Nat := 51
theorem D.q51 : T.prog.funcs[F.q51]? = some Tryz.f51 := Tryz.func51
abbrev F.q52 : Nat := 52
theorem D.q52 : T.prog.funcs[F.q52]? = some Tryz.f52 := Tryz.func52
abbrev F.q53 : Nat := 53
theorem D.q53 : T.prog.funcs[F.q53]? = some Tryz.f53 := Tryz.func53
abbrev F.q54 : Nat := 54
theorem D.q54 : T.prog.funcs[F.q54]? = some Tryz.f54 := Tryz.func54
abbrev F.q55 : Nat := 55
theorem D.q55 : T.prog.funcs[F.q55]? = some Tryz.f55 := Tryz.func55
abbrev F.q56 : Nat := 56
theorem D.q56 : T.prog.funcs[F.q56]? = some Tryz.f56 := Tryz.func56
abbrev F.q57 : Nat := 57
theorem D.q57 : T.prog.funcs[F.q57]? = some Tryz.f57 := Tryz.func57
abbrev F.q58 : Nat := 58
theorem D.q58 : T.prog.funcs[F.q58]? = some Tryz.f58 := Tryz.func58
abbrev F.q59 : Nat := 59
theorem D.q59 : T.prog.funcs[F.q59]? = some Tryz.f59 := Tryz.func59
abbrev F.q60 : Nat := 60
theorem D.q60 : T.prog.funcs[F.q60]? = some Tryz.f60 := Tryz.func60
abbrev F.q61 : Nat := 61
theorem D.q61 : T.prog.funcs[F.q61]? = some Tryz.f61 := Tryz.func61
abbrev F.q62 : Nat := 62
theorem D.q62 : T.prog.funcs[F.q62]? = some Tryz.f62 := Tryz.func62
abbrev F.q64 : Nat := 64
theorem D.q64 : T.prog.funcs[F.q64]? = some Tryz.f64 := Tryz.func64
abbrev F.q68 : Nat := 68
theorem D.q68 : T.prog.funcs[F.q68]? = some Tryz.f68 := Tryz.func68
abbrev F.q69 : Nat := 69
theorem D.q69 : T.prog.funcs[F.q69]? = some Tryz.f69 := Tryz.func69
abbrev F.q70 : Nat := 70
theorem D.q70 : T.prog.funcs[F.q70]? = some Tryz.f70 := Tryz.func70
abbrev F.q71 : Nat := 71
theorem D.q71 : T.prog.funcs[F.q71]? = some Tryz.f71 := Tryz.func71
abbrev F.q73 : Nat := 73
theorem D.q73 : T.prog.funcs[F.q73]? = some Tryz.f73 := Tryz.func73
abbrev F.q75 : Nat := 75
theorem D.q75 : T.prog.funcs[F.q75]? = some Tryz.f75 := Tryz.func75
abbrev F.q76 : Nat := 76
theorem D.q76 : T.prog.funcs[F.q76]? = some Tryz.f76 := Tryz.func76
abbrev F.q77 : Nat := 77
theorem D.q77 : T.prog.funcs[F.q77]? = some Tryz.f77 := Tryz.func77
abbrev F.q78 : Nat := 78
theorem D.q78 : T.prog.funcs[F.q78]? = some Tryz.f78 := Tryz.func78
abbrev F.q79 : Nat := 79
theorem D.q79 : T.prog.funcs[F.q79]? = some Tryz.f79 := Tryz.func79
abbrev F.q80 : Nat := 80
theorem D.q80 : T.prog.funcs[F.q80]? = some Tryz.f80 := Tryz.func80
abbrev F.q81 : Nat := 81
theorem D.q81 : T.prog.funcs[F.q81]? = some Tryz.f81 := Tryz.func81
abbrev F.q82 : Nat := 82
theorem D.q82 : T.prog.funcs[F.q82]? = some Tryz.f82 := Tryz.func82
abbrev F.q83 : Nat := 83
abbrev F.q84 : Nat := 84
theorem D.q84 : T.prog.funcs[F.q84]? = some Tryz.f84 := Tryz.func84
abbrev F.q85 : Nat := 85
theorem D.q85 : T.prog.funcs[F.q85]? = some Tryz.f85 := Tryz.func85
abbrev F.q86 : Nat := 86
theorem D.q86 : T.prog.funcs[F.q86]? = some Tryz.f86 := Tryz.func86
abbrev F.q87 : Nat := 87
theorem D.q87 : T.prog.funcs[F.q87]? = some Tryz.f87 := Tryz.func87
abbrev F.q88 : Nat := 88
theorem D.q88 : T.prog.funcs[F.q88]? = some Tryz.f88 := Tryz.func88
abbrev F.q89 : Nat := 89
theorem D.q89 : T.prog.funcs[F.q89]? = some Tryz.f89 := Tryz.func89
abbrev F.q90 : Nat := 90
theorem D.q90 : T.prog.funcs[F.q90]? = some Tryz.f90 := Tryz.func90
abbrev F.q91 : Nat := 91
theorem D.q91 : T.prog.funcs[F.q91]? = some Tryz.f91 := Tryz.func91
abbrev F.q92 : Nat := 92
theorem D.q92 : T.prog.funcs[F.q92]? = some Tryz.f92 := Tryz.func92
abbrev F.q93 : Nat := 93
theorem D.q93 : T.prog.funcs[F.q93]? = some Tryz.f93 := Tryz.func93
abbrev F.q94 : Nat := 94
theorem D.q94 : T.prog.funcs[F.q94]? = some Tryz.f94 := Tryz.func94
abbrev F.q95 : Nat := 95
abbrev F.q96 : Nat := 96
theorem D.q96 : T.prog.funcs[F.q96]? = some Tryz.f96 := Tryz.func96
abbrev F.q97 : Nat := 97
theorem D.q97 : T.prog.funcs[F.q97]? = some Tryz.f97 := Tryz.func97
abbrev F.q98 : Nat := 98
theorem D.q98 : T.prog.funcs[F.q98]? = some Tryz.f98 := Tryz.func98
abbrev F.q99 : Nat := 99
theorem D.q99 : T.prog.funcs[F.q99]? = some Tryz.f99 := Tryz.func99
abbrev F.q100 : Nat := 100
theorem D.q100 : T.prog.funcs[F.q100]? = some Tryz.f100 := Tryz.func100
abbrev F.q101 : Nat := 101
theorem D.q101 : T.prog.funcs[F.q101]? = some Tryz.f101 := Tryz.func101
abbrev F.q102 : Nat := 102
theorem D.q102 : T.prog.funcs[F.q102]? = some Tryz.f102 := Tryz.func102
abbrev F.q103 : Nat := 103
theorem D.q103 : T.prog.funcs[F.q103]? = some Tryz.f103 := Tryz.func103
abbrev F.q104 : Nat := 104
theorem D.q104 : T.prog.funcs[F.q104]? = some Tryz.f104 := Tryz.func104
abbrev F.q105 : Nat := 105
theorem D.q105 : T.prog.funcs[F.q105]? = some Tryz.f105 := Tryz.func105
abbrev F.q106 : Nat := 106
theorem D.q106 : T.prog.funcs[F.q106]? = some Tryz.f106 := Tryz.func106
abbrev F.q107 : Nat := 107
theorem D.q107 : T.prog.funcs[F.q107]? = some Tryz.f107 := Tryz.func107
abbrev F.q108 : Nat := 108
theorem D.q108 : T.prog.funcs[F.q108]? = some Tryz.f108 := Tryz.func108
abbrev F.q109 : Nat := 109
theorem D.q109 : T.prog.funcs[F.q109]? = some Tryz.f109 := Tryz.func109
abbrev F.q110 : Nat := 110
theorem D.q110 : T.prog.funcs[F.q110]? = some Tryz.f110 := Tryz.func110
abbrev F.q111 : Nat := 111
theorem D.q111 : T.prog.funcs[F.q111]? = some Tryz.f111 := Tryz.func111
abbrev F.q112 : Nat := 112
theorem D.q112 : T.prog.funcs[F.q112]? = some Tryz.f112 := Tryz.func112
abbrev F.q119 : Nat := 119
theorem D.q119 : T.prog.funcs[F.q119]? = some Tryz.f119 := Tryz.func119
abbrev F.q124 : Nat := 124
theorem D.q124 : T.prog.funcs[F.q124]? = some Tryz.f124 := Tryz.func124
abbrev F.q126 : Nat := 126
theorem D.q126 : T.prog.funcs[F.q126]? = some Tryz.f126 := Tryz.func126
abbrev F.q127 : Nat := 127
theorem D.q127 : T.prog.funcs[F.q127]? = some Tryz.f127 := Tryz.func127
abbrev F.q128 : Nat := 128
theorem D.q128 : T.prog.funcs[F.q128]? = some Tryz.f128 := Tryz.func128
abbrev F.q129 : Nat := 129
theorem D.q129 : T.prog.funcs[F.q129]? = some Tryz.f129 := Tryz.func129
abbrev F.q130 : Nat := 130
theorem D.q130 : T.prog.funcs[F.q130]? = some Tryz.f130 := Tryz.func130
abbrev F.q131 : Nat := 131
theorem D.q131 : T.prog.funcs[F.q131]? = some Tryz.f131 := Tryz.func131
abbrev F.q132 : Nat := 132
theorem D.q132 : T.prog.funcs[F.q132]? = some Tryz.f132 := Tryz.func132
abbrev F.q133 : Nat := 133
theorem D.q133 : T.prog.funcs[F.q133]? = some Tryz.f133 := Tryz.func133
abbrev F.q134 : Nat := 134
theorem D.q134 : T.prog.funcs[F.q134]? = some Tryz.f134 := Tryz.func134
abbrev F.q135 : Nat := 135
theorem D.q135 : T.prog.funcs[F.q135]? = some Tryz.f135 := Tryz.func135
abbrev F.q136 : Nat := 136
theorem D.q136 : T.prog.funcs[F.q136]? = some Tryz.f136 := Tryz.func136
abbrev F.q137 : Nat := 137
theorem D.q137 : T.prog.funcs[F.q137]? = some Tryz.f137 := Tryz.func137
abbrev F.q138 : Nat := 138
theorem D.q138 : T.prog.funcs[F.q138]? = some Tryz.f138 := Tryz.func138
abbrev F.q139 : Nat := 139
theorem D.q139 : T.prog.funcs[F.q139]? = some Tryz.f139 := Tryz.func139
abbrev F.q140 : Nat := 140
theorem D.q140 : T.prog.funcs[F.q140]? = some Tryz.f140 := Tryz.func140
abbrev F.q141 : Nat := 141
theorem D.q141 : T.prog.funcs[F.q141]? = some Tryz.f141 := Tryz.func141
abbrev F.q142 : Nat := 142
theorem D.q142 : T.prog.funcs[F.q142]? = some Tryz.f142 := Tryz.func142
abbrev F.q143 : Nat := 143
theorem D.q143 : T.prog.funcs[F.q143]? = some Tryz.f143 := Tryz.func143
abbrev F.q144 : Nat := 144
theorem D.q144 : T.prog.funcs[F.q144]? = some Tryz.f144 := Tryz.func144
abbrev F.q145 : Nat := 145
theorem D.q145 : T.prog.funcs[F.q145]? = some Tryz.f145 := Tryz.func145
abbrev F.q146 : Nat := 146
theorem D.q146 : T.prog.funcs[F.q146]? = some Tryz.f146 := Tryz.func146
abbrev F.q147 : Nat := 147
theorem D.q147 : T.prog.funcs[F.q147]? = some Tryz.f147 := Tryz.func147
abbrev F.q148 : Nat := 148
theorem D.q148 : T.prog.funcs[F.q148]? = some Tryz.f148 := Tryz.func148
abbrev F.q149 : Nat := 149
theorem D.q149 : T.prog.funcs[F.q149]? = some Tryz.f149 := Tryz.func149
abbrev F.q150 : Nat := 150
abbrev F.q151 : Nat := 151
theorem D.q151 : T.prog.funcs[F.q151]? = some Tryz.f151 := Tryz.func151
abbrev F.q152 : Nat := 152
theorem D.q152 : T.prog.funcs[F.q152]? = some Tryz.f152 := Tryz.func152
abbrev F.q153 : Nat := 153
theorem D.q153 : T.prog.funcs[F.q153]? = some Tryz.f153 := Tryz.func153
abbrev F.q154 : Nat := 154
theorem D.q154 : T.prog.funcs[F.q154]? = some Tryz.f154 := Tryz.func154
abbrev F.q155 : Nat := 155
theorem D.q155 : T.prog.funcs[F.q155]? = some Tryz.f155 := Tryz.func155
abbrev F.q156 : Nat := 156
theorem D.q156 : T.prog.funcs[F.q156]? = some Tryz.f156 := Tryz.func156
abbrev F.q157 : Nat := 157
theorem D.q157 : T.prog.funcs[F.q157]? = some Tryz.f157 := Tryz.func157
abbrev F.q158 : Nat := 158
theorem D.q158 : T.prog.funcs[F.q158]? = some Tryz.f158 := Tryz.func158
abbrev F.q159 : Nat := 159
theorem D.q159 : T.prog.funcs[F.q159]? = some Tryz.f159 := Tryz.func159
abbrev F.q160 : Nat := 160
theorem D.q160 : T.prog.funcs[F.q160]? = some Tryz.f160 := Tryz.func160
abbrev F.q161 : Nat := 161
theorem D.q161 : T.prog.funcs[F.q161]? = some Tryz.f161 := Tryz.func161
abbrev F.q162 : Nat := 162
theorem D.q162 : T.prog.funcs[F.q162]? = some Tryz.f162 := Tryz.func162
abbrev F.q163 : Nat := 163
theorem D.q163 : T.prog.funcs[F.q163]? = some Tryz.f163 := Tryz.func163
abbrev F.q164 : Nat := 164
theorem D.q164 : T.prog.funcs[F.q164]? = some Tryz.f164 := Tryz.func164
abbrev F.q165 : Nat := 165
theorem D.q165 : T.prog.funcs[F.q165]? = some Tryz.f165 := Tryz.func165
abbrev F.q166 : Nat := 166
theorem D.q166 : T.prog.funcs[F.q166]? = some Tryz.f166 := Tryz.func166
abbrev F.q167 : Nat := 167
theorem D.q167 : T.prog.funcs[F.q167]? = some Tryz.f167 := Tryz.func167
abbrev F.q168 : Nat := 168
theorem D.q168 : T.prog.funcs[F.q168]? = some Tryz.f168 := Tryz.func168
abbrev F.q169 : Nat := 169
theorem D.q169 : T.prog.funcs[F.q169]? = some Tryz.f169 := Tryz.func169
abbrev F.q170 : Nat := 170
theorem D.q170 : T.prog.funcs[F.q170]? = some Tryz.f170 := Tryz.func170
abbrev F.q171 : Nat := 171
theorem D.q171 : T.prog.funcs[F.q171]? = some Tryz.f171 := Tryz.func171
abbrev F.q172 : Nat := 172
theorem D.q172 : T.prog.funcs[F.q172]? = some Tryz.f172 := Tryz.func172
abbrev F.q173 : Nat := 173
theorem D.q173 : T.prog.funcs[F.q173]? = some Tryz.f173 := Tryz.func173
abbrev F.q174 : Nat := 174
theorem D.q174 : T.prog.funcs[F.q174]? = some Tryz.f174 := Tryz.func174
abbrev F.q175 : Nat := 175
theorem D.q175 : T.prog.funcs[F.q175]? = some Tryz.f175 := Tryz.func175
abbrev F.q176 : Nat := 176
theorem D.q176 : T.prog.funcs[F.q176]? = some Tryz.f176 := Tryz.func176
abbrev F.q177 : Nat := 177
theorem D.q177 : T.prog.funcs[F.q177]? = some Tryz.f177 := Tryz.func177
abbrev F.q178 : Nat := 178
theorem D.q178 : T.prog.funcs[F.q178]? = some Tryz.f178 := Tryz.func178
abbrev F.q179 : Nat := 179
theorem D.q179 : T.prog.funcs[F.q179]? = some Tryz.f179 := Tryz.func179
abbrev F.q180 : Nat := 180
theorem D.q180 : T.prog.funcs[F.q180]? = some Tryz.f180 := Tryz.func180
abbrev F.q181 : Nat := 181
theorem D.q181 : T.prog.funcs[F.q181]? = some Tryz.f181 := Tryz.func181
abbrev F.q182 : Nat := 182
theorem D.q182 : T.prog.funcs[F.q182]? = some Tryz.f182 := Tryz.func182
abbrev F.q183 : Nat := 183
theorem D.q183 : T.prog.funcs[F.q183]? = some Tryz.f183 := Tryz.func183
abbrev F.q187 : Nat := 187
theorem D.q187 : T.prog.funcs[F.q187]? = some Tryz.f187 := Tryz.func187
abbrev F.q188 : Nat := 188
theorem D.q188 : T.prog.funcs[F.q188]? = some Tryz.f188 := Tryz.func188
abbrev F.q189 : Nat := 189
theorem D.q189 : T.prog.funcs[F.q189]? = some Tryz.f189 := Tryz.func189
abbrev F.q204 : Nat := 204
theorem D.q204 : T.prog.funcs[F.q204]? = some Tryz.f204 := Tryz.func204
abbrev F.q205 : Nat := 205
theorem D.q205 : T.prog.funcs[F.q205]? = some Tryz.f205 := Tryz.func205
abbrev F.q206 : Nat := 206
theorem D.q206 : T.prog.funcs[F.q206]? = some Tryz.f206 := Tryz.func206
abbrev F.q207 : Nat := 207
theorem D.q207 : T.prog.funcs[F.q207]? = some Tryz.f207 := Tryz.func207
abbrev F.q208 : Nat := 208
abbrev F.q209 : Nat := 209
theorem D.q209 : T.prog.funcs[F.q209]? = some Tryz.f209 := Tryz.func209
abbrev F.q210 : Nat := 210
theorem D.q210 : T.prog.funcs[F.q210]? = some Tryz.f210 := Tryz.func210
abbrev F.q211 : Nat := 211
theorem D.q211 : T.prog.funcs[F.q211]? = some Tryz.f211 := Tryz.func211
abbrev F.q212 : Nat := 212
theorem D.q212 : T.prog.funcs[F.q212]? = some Tryz.f212 := Tryz.func212
abbrev F.q213 : Nat := 213
theorem D.q213 : T.prog.funcs[F.q213]? = some Tryz.f213 := Tryz.func213
abbrev F.q214 : Nat := 214
theorem D.q214 : T.prog.funcs[F.q214]? = some Tryz.f214 := Tryz.func214
abbrev F.q215 : Nat := 215
theorem D.q215 : T.prog.funcs[F.q215]? = some Tryz.f215 := Tryz.func215
abbrev F.q216 : Nat := 216
theorem D.q216 : T.prog.funcs[F.q216]? = some Tryz.f216 := Tryz.func216
abbrev F.q217 : Nat := 217
theorem D.q217 : T.prog.funcs[F.q217]? = some Tryz.f217 := Tryz.func217
abbrev F.q218 : Nat := 218
theorem D.q218 : T.prog.funcs[F.q218]? = some Tryz.f218 := Tryz.func218
abbrev F.q219 : Nat := 219
theorem D.q219 : T.prog.funcs[F.q219]? = some Tryz.f219 := Tryz.func219
abbrev F.q220 : Nat := 220
theorem D.q220 : T.prog.funcs[F.q220]? = some Tryz.f220 := Tryz.func220
abbrev F.q221 : Nat := 221
theorem D.q221 : T.prog.funcs[F.q221]? = some Tryz.f221 := Tryz.func221
abbrev F.q222 : Nat := 222
theorem D.q222 : T.prog.funcs[F.q222]? = some Tryz.f222 := Tryz.func222
abbrev F.q223 : Nat := 223
theorem D.q223 : T.prog.funcs[F.q223]? = some Tryz.f223 := Tryz.func223
abbrev F.q224 : Nat := 224
theorem D.q224 : T.prog.funcs[F.q224]? = some Tryz.f224 := Tryz.func224
abbrev F.q225 : Nat := 225
theorem D.q225 : T.prog.funcs[F.q225]? = some Tryz.f225 := Tryz.func225
abbrev F.q226 : Nat := 226
theorem D.q226 : T.prog.funcs[F.q226]? = some Tryz.f226 := Tryz.func226
abbrev F.q227 : Nat := 227
theorem D.q227 : T.prog.funcs[F.q227]? = some Tryz.f227 := Tryz.func227
abbrev F.q228 : Nat := 228
theorem D.q228 : T.prog.funcs[F.q228]? = some Tryz.f228 := Tryz.func228
abbrev F.q229 : Nat := 229
theorem D.q229 : T.prog.funcs[F.q229]? = some Tryz.f229 := Tryz.func229
abbrev F.q230 : Nat := 230
theorem D.q230 : T.prog.funcs[F.q230]? = some Tryz.f230 := Tryz.func230
abbrev F.q231 : Nat := 231
theorem D.q231 : T.prog.funcs[F.q231]? = some Tryz.f231 := Tryz.func231
abbrev F.q232 : Nat := 232
theorem D.q232 : T.prog.funcs[F.q232]? = some Tryz.f232 := Tryz.func232
abbrev F.q233 : Nat := 233
theorem D.q233 : T.prog.funcs[F.q233]? = some Tryz.f233 := Tryz.func233
abbrev F.q239 : Nat := 239
theorem D.q239 : T.prog.funcs[F.q239]? = some Tryz.f239 := Tryz.func239
abbrev F.q240 : Nat := 240
theorem D.q240 : T.prog.funcs[F.q240]? = some Tryz.f240 := Tryz.func240
abbrev F.q241 : Nat := 241
theorem D.q241 : T.prog.funcs[F.q241]? = some Tryz.f241 := Tryz.func241
abbrev F.q242 : Nat := 242
theorem D.q242 : T.prog.funcs[F.q242]? = some Tryz.f242 := Tryz.func242
abbrev F.q243 : Nat := 243
theorem D.q243 : T.prog.funcs[F.q243]? = some Tryz.f243 := Tryz.func243
abbrev F.q244 : Nat := 244
theorem D.q244 : T.prog.funcs[F.q244]? = some Tryz.f244 := Tryz.func244
abbrev F.q245 : Nat := 245
theorem D.q245 : T.prog.funcs[F.q245]? = some Tryz.f245 := Tryz.func245
abbrev F.q246 : Nat := 246
theorem D.q246 : T.prog.funcs[F.q246]? = some Tryz.f246 := Tryz.func246
abbrev F.q247 : Nat := 247
theorem D.q247 : T.prog.funcs[F.q247]? = some Tryz.f247 := Tryz.func247
abbrev F.q248 : Nat := 248
theorem D.q248 : T.prog.funcs[F.q248]? = some Tryz.f248 := Tryz.func248
abbrev F.q249 : Nat := 249
theorem D.q249 : T.prog.funcs[F.q249]? = some Tryz.f249 := Tryz.func249
abbrev F.q250 : Nat := 250
theorem D.q250 : T.prog.funcs[F.q250]? = some Tryz.f250 := Tryz.func250
abbrev F.q251 : Nat := 251
theorem D.q251 : T.prog.funcs[F.q251]? = some Tryz.f251 := Tryz.func251
abbrev F.q252 : Nat := 252
theorem D.q252 : T.prog.funcs[F.q252]? = some Tryz.f252 := Tryz.func252
abbrev F.q253 : Nat := 253
theorem D.q253 : T.prog.funcs[F.q253]? = some Tryz.f253 := Tryz.func253
abbrev F.q254 : Nat := 254
theorem D.q254 : T.prog.funcs[F.q254]? = some Tryz.f254 := Tryz.func254
abbrev F.q255 : Nat := 255
theorem D.q255 : T.prog.funcs[F.q255]? = some Tryz.f255 := Tryz.func255
abbrev F.q256 : Nat := 256
theorem D.q256 : T.prog.funcs[F.q256]? = some Tryz.f256 := Tryz.func256
abbrev F.q270 : Nat := 270
theorem D.q270 : T.prog.funcs[F.q270]? = some Tryz.f270 := Tryz.func270
abbrev F.q271 : Nat := 271
abbrev F.q272 : Nat := 272
abbrev F.q273 : Nat := 273
theorem D.q273 : T.prog.funcs[F.q273]? = some Tryz.f273 := Tryz.func273
abbrev F.q274 : Nat := 274
theorem D.q274 : T.prog.funcs[F.q274]? = some Tryz.f274 := Tryz.func274
abbrev F.q275 : Nat := 275
theorem D.q275 : T.prog.funcs[F.q275]? = some Tryz.f275 := Tryz.func275
abbrev F.q276 : Nat := 276
theorem D.q276 : T.prog.funcs[F.q276]? = some Tryz.f276 := Tryz.func276
abbrev F.q277 : Nat := 277
theorem D.q277 : T.prog.funcs[F.q277]? = some Tryz.f277 := Tryz.func277
abbrev F.q278 : Nat := 278
theorem D.q278 : T.prog.funcs[F.q278]? = some Tryz.f278 := Tryz.func278
abbrev F.q279 : Nat := 279
theorem D.q279 : T.prog.funcs[F.q279]? = some Tryz.f279 := Tryz.func279
abbrev F.q280 : Nat := 280
theorem D.q280 : T.prog.funcs[F.q280]? = some Tryz.f280 := Tryz.func280
abbrev F.q281 : Nat := 281
theorem D.q281 : T.prog.funcs[F.q281]? = some Tryz.f281 := Tryz.func281
abbrev F.q282 : Nat := 282
theorem D.q282 : T.prog.funcs[F.q282]? = some Tryz.f282 := Tryz.func282
abbrev F.q283 : Nat := 283
theorem D.q283 : T.prog.funcs[F.q283]? = some Tryz.f283 := Tryz.func283
abbrev F.q284 : Nat := 284
theorem D.q284 : T.prog.funcs[F.q284]? = some Tryz.f284 := Tryz.func284
abbrev F.q285 : Nat := 285
theorem D.q285 : T.prog.funcs[F.q285]? = some Tryz.f285 := Tryz.func285
abbrev F.q286 : Nat := 286
theorem D.q286 : T.prog.funcs[F.q286]? = some Tryz.f286 := Tryz.func286
abbrev F.q287 : Nat := 287
theorem D.q287 : T.prog.funcs[F.q287]? = some Tryz.f287 := Tryz.func287
abbrev F.q292 : Nat := 292
theorem D.q292 : T.prog.funcs[F.q292]? = some Tryz.f292 := Tryz.func292
abbrev F.q293 : Nat := 293
theorem D.q293 : T.prog.funcs[F.q293]? = some Tryz.f293 := Tryz.func293
abbrev F.q294 : Nat := 294
theorem D.q294 : T.prog.funcs[F.q294]? = some Tryz.f294 := Tryz.func294
abbrev F.q295 : Nat := 295
theorem D.q295 : T.prog.funcs[F.q295]? = some Tryz.f295 := Tryz.func295
abbrev F.q296 : Nat := 296
theorem D.q296 : T.prog.funcs[F.q296]? = some Tryz.f296 := Tryz.func296
abbrev F.q297 : Nat := 297
theorem D.q297 : T.prog.funcs[F.q297]? = some Tryz.f297 := Tryz.func297
abbrev F.q298 : Nat := 298
theorem D.q298 : T.prog.funcs[F.q298]? = some Tryz.f298 := Tryz.func298
abbrev F.q299 : Nat := 299
theorem D.q299 : T.prog.funcs[F.q299]? = some Tryz.f299 := Tryz.func299
abbrev F.q300 : Nat := 300
theorem D.q300 : T.prog.funcs[F.q300]? = some Tryz.f300 := Tryz.func300
abbrev F.q301 : Nat := 301
abbrev F.q302 : Nat := 302
abbrev F.q303 : Nat := 303
theorem D.q303 : T.prog.funcs[F.q303]? = some Tryz.f303 := Tryz.func303
abbrev F.q304 : Nat := 304
theorem D.q304 : T.prog.funcs[F.q304]? = some Tryz.f304 := Tryz.func304
abbrev F.q305 : Nat := 305
theorem D.q305 : T.prog.funcs[F.q305]? = some Tryz.f305 := Tryz.func305
abbrev F.q306 : Nat := 306
theorem D.q306 : T.prog.funcs[F.q306]? = some Tryz.f306 := Tryz.func306
abbrev F.q307 : Nat := 307
theorem D.q307 : T.prog.funcs[F.q307]? = some Tryz.f307 := Tryz.func307
abbrev F.q308 : Nat := 308
theorem D.q308 : T.prog.funcs[F.q308]? = some Tryz.f308 := Tryz.func308
abbrev F.q315 : Nat := 315
theorem D.q315 : T.prog.funcs[F.q315]? = some Tryz.f315 := Tryz.func315
abbrev F.q317 : Nat := 317
abbrev F.q318 : Nat := 318
theorem D.q318 : T.prog.funcs[F.q318]? = some Tryz.f318 := Tryz.func318
abbrev F.q319 : Nat := 319
theorem D.q319 : T.prog.funcs[F.q319]? = some Tryz.f319 := Tryz.func319
abbrev F.q320 : Nat := 320
theorem D.q320 : T.prog.funcs[F.q320]? = some Tryz.f320 := Tryz.func320
abbrev F.q321 : Nat := 321
theorem D.q321 : T.prog.funcs[F.q321]? = some Tryz.f321 := Tryz.func321
abbrev F.q322 : Nat := 322
abbrev F.q329 : Nat := 329
theorem D.q329 : T.prog.funcs[F.q329]? = some Tryz.f329 := Tryz.func329
abbrev F.q330 : Nat := 330
theorem D.q330 : T.prog.funcs[F.q330]? = some Tryz.f330 := Tryz.func330
abbrev F.q331 : Nat := 331
theorem D.q331 : T.prog.funcs[F.q331]? = some Tryz.f331 := Tryz.func331
abbrev F.q332 : Nat := 332
theorem D.q332 : T.prog.funcs[F.q332]? = some Tryz.f332 := Tryz.func332
abbrev F.q333 : Nat := 333
theorem D.q333 : T.prog.funcs[F.q333]? = some Tryz.f333 := Tryz.func333
abbrev F.q334 : Nat := 334
theorem D.q334 : T.prog.funcs[F.q334]? = some Tryz.f334 := Tryz.func334
abbrev F.q337 : Nat := 337
theorem D.q337 : T.prog.funcs[F.q337]? = some Tryz.f337 := Tryz.func337
abbrev F.q338 : Nat := 338
theorem D.q338 : T.prog.funcs[F.q338]? = some Tryz.f338 := Tryz.func338
abbrev F.q341 : Nat := 341
abbrev F.q342 : Nat := 342
abbrev F.q343 : Nat := 343
abbrev F.q344 : Nat := 344
abbrev F.q349 : Nat := 349
theorem D.q349 : T.prog.funcs[F.q349]? = some Tryz.f349 := Tryz.func349
abbrev F.q350 : Nat := 350
theorem D.q350 : T.prog.funcs[F.q350]? = some Tryz.f350 := Tryz.func350
abbrev F.q351 : Nat := 351
theorem D.q351 : T.prog.funcs[F.q351]? = some Tryz.f351 := Tryz.func351
abbrev F.q360 : Nat := 360
abbrev F.q361 : Nat := 361
theorem D.q361 : T.prog.funcs[F.q361]? = some Tryz.f361 := Tryz.func361
abbrev F.q364 : Nat := 364
abbrev F.q365 : Nat := 365
abbrev F.q366 : Nat := 366
abbrev F.q367 : Nat := 367
abbrev F.q368 : Nat := 368
theorem D.q368 : T.prog.funcs[F.q368]? = some Tryz.f368 := Tryz.func368
abbrev F.q375 : Nat := 375
abbrev F.q376 : Nat := 376
theorem D.q376 : T.prog.funcs[F.q376]? = some Tryz.f376 := Tryz.func376
abbrev Ty.int64 : Nat := 2
abbrev Ty.int : Nat := 3
abbrev Ty.bool : Nat := 4
abbrev Ty.uint8 : Nat := 5
abbrev Ty.int32 : Nat := 21
abbrev Ty.api_Rat : Nat := 24
abbrev Ty.api_Expr : Nat := 27
abbrev Ty.api_Errno : Nat := 28
abbrev Ty.ref01_Nat : Nat := 42
abbrev Ty.ref01_Q : Nat := 44
abbrev Ty.api_Value : Nat := 63
abbrev Ty.api_Term : Nat := 74
abbrev Ty.api_Factor : Nat := 79
abbrev Ty.expr_poly : Nat := 91
abbrev Ty.word_Nat : Nat := 94
abbrev Ty.word_Frac : Nat := 96
abbrev Ty.expr_term : Nat := 98
abbrev Ty.uint64 : Nat := 107
abbrev Ty.api_Bind : Nat := 115
abbrev Ty.ref04_term : Nat := 131
abbrev Ty.syntax_Fault : Nat := 139
abbrev Ty.expr_failure : Nat := 150
abbrev Ty.uint32 : Nat := 153
abbrev Ty.syntax_Token : Nat := 191
abbrev Ty.syntax_Parser : Nat := 198
abbrev Ty.syntax_count : Nat := 205
abbrev Ty.expr_operand : Nat := 228
abbrev Ty.ref04_Token : Nat := 238
abbrev Ty.ref04_Reader : Nat := 242
abbrev Ty.ref04_Use : Nat := 289
abbrev Gl.math_bits_deBruijn32tab : Nat := 0
abbrev Gl.internal_bytealg_MaxLen : Nat := 1
abbrev Gl.unicode_utf8_first : Nat := 2
abbrev Gl.unicode_utf8_acceptRanges : Nat := 3
abbrev Gl.internal_strconv_uint64pow10 : Nat := 4
abbrev Gl.math_bits_deBruijn64tab : Nat := 5
end Go.Proofs.Y