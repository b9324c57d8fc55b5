/- The tables of this seat's translation as the engine wants them: the types' shapes and zero values, the functions' numbers by name. Printed by program; every row is checked by Lean. -/
import Derived.Test.YtblecjeceecaaaaGreatDoorProg
import Derived.Test.YtblecjeceecaaaaGreatDoorVcRule
import Derived.KernelRfl
set_option linter.all false
set_option maxRecDepth 100000
namespace Go.Proofs.Y
open Go Go.Vc
inductive BT (α : Type) where
  | leaf
  | node (l : BT α) (k : Nat) (x : α) (r : BT α)
def aGq {α : Type} : BT α → Nat → Option α
  | .leaf, _ => none
  | .node l k x r, t => match Nat.beq t k with
    | true => some x
    | false => match Nat.blt t k with
      | true => aGq l t
      | false => aGq r t
def BT.toL {α : Type} : BT α → List (Nat × α)
  | .leaf => []
  | .node l k x r => l.toL ++ (k, x) :: r.toL
theorem sW {α : Type} : ∀ {b : BT α} {t : Nat} {x : α}, aGq b t = some x → (t, x) ∈ b.toL
  | .leaf, _, _, h => by simp [aGq] at h
  | .node l k y r, t, x, h => by
    simp only [aGq] at h
    split at h
    · rename_i e
      obtain rfl := Nat.eq_of_beq_eq_true e
      cases h; simp [BT.toL]
    · split at h
      · exact bJh _ (sW h)
      · exact bJi _ (bIz _ (sW h))
def bFt : BT TypeDesc := (.node (.node (.node (.node (.node (.node (.node .leaf 1 (.func #[] #[] false) .leaf) 2 (.int .i64) .leaf) 3 (.int .i64) (.node .leaf 4 (.bool) .leaf)) 5 (.int .u8) (.node (.node .leaf 9 (.string) .leaf) 22 (.slice 153) (.node .leaf 24 (.struct #[⟨"Neg", 4, 0, false, "", "", 0⟩, ⟨"Num", 22, 1, false, "", "", 8⟩, ⟨"Den", 22, 2, false, "", "", 32⟩]) .leaf))) 25 (.slice 27) (.node (.node (.node .leaf 27 (.struct #[⟨"Op", 3, 0, false, "", "", 0⟩, ⟨"Arg", 3, 1, false, "", "", 8⟩, ⟨"Num", 24, 2, false, "", "", 16⟩, ⟨"Name", 9, 5, false, "", "", 72⟩, ⟨"Kids", 25, 6, false, "", "", 88⟩]) .leaf) 28 (.int .i64) (.node .leaf 32 (.func #[27, 27] #[4] false) .leaf)) 34 (.func #[27] #[4] false) (.node (.node .leaf 39 (.slice 74) .leaf) 42 (.slice 153) (.node .leaf 44 (.struct #[⟨"Neg", 4, 0, false, "", "", 0⟩, ⟨"N", 42, 1, false, "", "", 8⟩, ⟨"D", 42, 2, false, "", "", 32⟩]) .leaf)))) 64 (.func #[24] #[24] false) (.node (.node (.node (.node (.node .leaf 65 (.func #[27] #[27, 28] false) .leaf) 72 (.slice 79) .leaf) 74 (.struct #[⟨"Coef", 24, 0, false, "", "", 0⟩, ⟨"Factors", 72, 3, false, "", "", 56⟩]) (.node .leaf 79 (.struct #[⟨"Atom", 9, 0, false, "", "", 0⟩, ⟨"Exp", 3, 1, false, "", "", 16⟩]) .leaf)) 80 (.func #[74, 74] #[4] false) (.node (.node .leaf 90 (.slice 98) .leaf) 91 (.slice 98) (.node .leaf 94 (.slice 153) .leaf))) 96 (.struct #[⟨"Neg", 4, 0, false, "", "", 0⟩, ⟨"Num", 94, 1, false, "", "", 8⟩, ⟨"Den", 94, 2, false, "", "", 32⟩]) (.node (.node (.node .leaf 98 (.struct #[⟨"coef", 96, 0, false, "", "inequality/expr", 0⟩, ⟨"factors", 72, 3, false, "", "inequality/expr", 56⟩]) .leaf) 107 (.int .u64) (.node .leaf 109 (.slice 9) .leaf)) 133 (.slice 191) (.node (.node .leaf 136 (.pointer 198) .leaf) 139 (.struct #[⟨"Err", 28, 0, false, "", "", 0⟩, ⟨"At", 3, 1, false, "", "", 8⟩]) (.node .leaf 144 (.func #[96] #[96] false) .leaf))))) 150 (.struct #[⟨"why", 28, 0, false, "", "inequality/expr", 0⟩]) (.node (.node (.node (.node (.node (.node .leaf 153 (.int .u32) .leaf) 164 (.func #[34] #[] false) .leaf) 172 (.pointer 175) (.node .leaf 173 (.slice 5) .leaf)) 175 (.struct #[⟨"addr", 172, 0, false, "", "strings", 0⟩, ⟨"buf", 173, 1, false, "", "strings", 8⟩]) (.node (.node .leaf 191 (.struct #[⟨"Kind", 3, 0, false, "", "", 0⟩, ⟨"Text", 9, 1, false, "", "", 8⟩, ⟨"At", 3, 2, false, "", "", 24⟩]) .leaf) 196 (.slice 205) (.node .leaf 198 (.struct #[⟨"tokens", 133, 0, false, "", "inequality/syntax", 0⟩, ⟨"next", 3, 1, false, "", "inequality/syntax", 24⟩, ⟨"end", 3, 2, false, "", "inequality/syntax", 32⟩, ⟨"counts", 196, 3, false, "", "inequality/syntax", 40⟩]) .leaf))) 199 (.slice 139) (.node (.node (.node .leaf 205 (.struct #[⟨"at", 3, 0, false, "", "inequality/syntax", 0⟩, ⟨"low", 3, 1, false, "", "inequality/syntax", 8⟩, ⟨"high", 3, 2, false, "", "inequality/syntax", 16⟩, ⟨"n", 3, 3, false, "", "inequality/syntax", 24⟩]) .leaf) 222 (.int .u64) (.node .leaf 228 (.struct #[⟨"e", 27, 0, false, "", "inequality/expr", 0⟩, ⟨"x", 96, 7, false, "", "inequality/expr", 112⟩, ⟨"is", 4, 10, false, "", "inequality/expr", 168⟩]) .leaf)) 232 (.slice 238) (.node (.node .leaf 235 (.pointer 242) .leaf) 238 (.struct #[⟨"Kind", 3, 0, false, "", "", 0⟩, ⟨"At", 3, 1, false, "", "", 8⟩, ⟨"Text", 9, 2, false, "", "", 16⟩]) (.node .leaf 240 (.slice 289) .leaf)))) 242 (.struct #[⟨"L", 232, 0, false, "", "", 0⟩, ⟨"I", 3, 1, false, "", "", 24⟩, ⟨"End", 3, 2, false, "", "", 32⟩, ⟨"Bad", 3, 3, false, "", "", 40⟩, ⟨"Uses", 240, 4, false, "", "", 48⟩]) (.node (.node (.node (.node (.node .leaf 253 (.pointer 5) .leaf) 267 (.array 256 4) .leaf) 271 (.pointer 267) (.node .leaf 289 (.struct #[⟨"T", 238, 0, false, "", "", 0⟩, ⟨"Root", 4, 3, false, "", "", 32⟩]) .leaf)) 292 (.map 3 9) (.node (.node .leaf 306 (.func #[98, 98] #[3] false) .leaf) 308 (.func #[98] #[4] false) (.node .leaf 309 (.map 9 3) .leaf))) 310 (.slice 72) (.node (.node (.node .leaf 312 (.func #[79, 79] #[3] false) .leaf) 321 (.array 32 5) (.node .leaf 336 (.array 24 5) .leaf)) 350 (.slice 3) (.node (.node .leaf 360 (.array 20 107) .leaf) 361 (.array 65 5) (.node .leaf 371 (.array 64 5) .leaf))))))
def bFu : BT (List Value × Nat) := (.node (.node (.node (.node (.node (.node (.node .leaf 1 ([.nilFunc], 8) .leaf) 2 ([.int .i64 0], 8) .leaf) 3 ([.int .i64 0], 8) (.node .leaf 4 ([.bool false], 1) .leaf)) 5 ([.int .u8 0], 1) (.node (.node .leaf 9 ([.string ByteArray.empty], 16) .leaf) 22 ([.slice none 0 0], 24) (.node .leaf 24 ([.bool false, .slice none 0 0, .slice none 0 0], 56) .leaf))) 25 ([.slice none 0 0], 24) (.node (.node (.node .leaf 27 ([.int .i64 0, .int .i64 0, .bool false, .slice none 0 0, .slice none 0 0, .string ByteArray.empty, .slice none 0 0], 112) .leaf) 28 ([.int .i64 0], 8) (.node .leaf 32 ([.nilFunc], 8) .leaf)) 34 ([.nilFunc], 8) (.node (.node .leaf 39 ([.slice none 0 0], 24) .leaf) 42 ([.slice none 0 0], 24) (.node .leaf 44 ([.bool false, .slice none 0 0, .slice none 0 0], 56) .leaf)))) 64 ([.nilFunc], 8) (.node (.node (.node (.node (.node .leaf 65 ([.nilFunc], 8) .leaf) 72 ([.slice none 0 0], 24) .leaf) 74 ([.bool false, .slice none 0 0, .slice none 0 0, .slice none 0 0], 80) (.node .leaf 79 ([.string ByteArray.empty, .int .i64 0], 24) .leaf)) 80 ([.nilFunc], 8) (.node (.node .leaf 90 ([.slice none 0 0], 24) .leaf) 91 ([.slice none 0 0], 24) (.node .leaf 94 ([.slice none 0 0], 24) .leaf))) 96 ([.bool false, .slice none 0 0, .slice none 0 0], 56) (.node (.node (.node .leaf 98 ([.bool false, .slice none 0 0, .slice none 0 0, .slice none 0 0], 80) .leaf) 107 ([.int .u64 0], 8) (.node .leaf 109 ([.slice none 0 0], 24) .leaf)) 133 ([.slice none 0 0], 24) (.node (.node .leaf 136 ([.pointer none], 8) .leaf) 139 ([.int .i64 0, .int .i64 0], 16) (.node .leaf 144 ([.nilFunc], 8) .leaf))))) 150 ([.int .i64 0], 8) (.node (.node (.node (.node (.node (.node .leaf 153 ([.int .u32 0], 4) .leaf) 164 ([.nilFunc], 8) .leaf) 172 ([.pointer none], 8) (.node .leaf 173 ([.slice none 0 0], 24) .leaf)) 175 ([.pointer none, .slice none 0 0], 32) (.node (.node .leaf 191 ([.int .i64 0, .string ByteArray.empty, .int .i64 0], 32) .leaf) 196 ([.slice none 0 0], 24) (.node .leaf 198 ([.slice none 0 0, .int .i64 0, .int .i64 0, .slice none 0 0], 64) .leaf))) 199 ([.slice none 0 0], 24) (.node (.node (.node .leaf 205 ([.int .i64 0, .int .i64 0, .int .i64 0, .int .i64 0], 32) .leaf) 222 ([.int .u64 0], 8) (.node .leaf 228 ([.int .i64 0, .int .i64 0, .bool false, .slice none 0 0, .slice none 0 0, .string ByteArray.empty, .slice none 0 0, .bool false, .slice none 0 0, .slice none 0 0, .bool false], 176) .leaf)) 232 ([.slice none 0 0], 24) (.node (.node .leaf 235 ([.pointer none], 8) .leaf) 238 ([.int .i64 0, .int .i64 0, .string ByteArray.empty], 32) (.node .leaf 240 ([.slice none 0 0], 24) .leaf)))) 242 ([.slice none 0 0, .int .i64 0, .int .i64 0, .int .i64 0, .slice none 0 0], 72) (.node (.node (.node (.node .leaf 253 ([.pointer none], 8) .leaf) 271 ([.pointer none], 8) (.node .leaf 289 ([.int .i64 0, .int .i64 0, .string ByteArray.empty, .bool false], 40) .leaf)) 292 ([.map none], 8) (.node (.node .leaf 306 ([.nilFunc], 8) .leaf) 308 ([.nilFunc], 8) (.node .leaf 309 ([.map none], 8) .leaf))) 310 ([.slice none 0 0], 24) (.node (.node (.node .leaf 312 ([.nilFunc], 8) .leaf) 318 ([.pointer none], 8) (.node .leaf 321 ([.int .u8 0, .int .u8 0, .int .u8 0, .int .u8 0, .int .u8 0, .int .u8 0, .int .u8 0, .int .u8 0, .int .u8 0, .int .u8 0, .int .u8 0, .int .u8 0, .int .u8 0, .int .u8 0, .int .u8 0, .int .u8 0, .int .u8 0, .int .u8 0, .int .u8 0, .int .u8 0, .int .u8 0, .int .u8 0, .int .u8 0, .int .u8 0, .int .u8 0, .int .u8 0, .int .u8 0, .int .u8 0, .int .u8 0, .int .u8 0, .int .u8 0, .int .u8 0], 32) .leaf)) 336 ([.int .u8 0, .int .u8 0, .int .u8 0, .int .u8 0, .int .u8 0, .int .u8 0, .int .u8 0, .int .u8 0, .int .u8 0, .int .u8 0, .int .u8 0, .int .u8 0, .int .u8 0, .int .u8 0, .int .u8 0, .int .u8 0, .int .u8 0, .int .u8 0, .int .u8 0, .int .u8 0, .int .u8 0, .int .u8 0, .int .u8 0, .int .u8 0], 24) (.node (.node .leaf 350 ([.slice none 0 0], 24) .leaf) 360 ([.int .u64 0, .int .u64 0, .int .u64 0, .int .u64 0, .int .u64 0, .int .u64 0, .int .u64 0, .int .u64 0, .int .u64 0, .int .u64 0, .int .u64 0, .int .u64 0, .int .u64 0, .int .u64 0, .int .u64 0, .int .u64 0, .int .u64 0, .int .u64 0, .int .u64 0, .int .u64 0], 160) (.node .leaf 371 ([.int .u8 0, .int .u8 0, .int .u8 0, .int .u8 0, .int .u8 0, .int .u8 0, .int .u8 0, .int .u8 0, .int .u8 0, .int .u8 0, .int .u8 0, .int .u8 0, .int .u8 0, .int .u8 0, .int .u8 0, .int .u8 0, .int .u8 0, .int .u8 0, .int .u8 0, .int .u8 0, .int .u8 0, .int .u8 0, .int .u8 0, .int .u8 0, .int .u8 0, .int .u8 0, .int .u8 0, .int .u8 0, .int .u8 0, .int .u8 0, .int .u8 0, .int .u8 0, .int .u8 0, .int .u8 0, .int .u8 0, .int .u8 0, .int .u8 0, .int .u8 0, .int .u8 0, .int .u8 0, .int .u8 0, .int .u8 0, .int .u8 0, .int .u8 0, .int .u8 0, .int .u8 0, .int .u8 0, .int .u8 0, .int .u8 0, .int .u8 0, .int .u8 0, .int .u8 0, .int .u8 0, .int .u8 0, .int .u8 0, .int .u8 0, .int .u8 0, .int .u8 0, .int .u8 0, .int .u8 0, .int .u8 0, .int .u8 0, .int .u8 0, .int .u8 0], 64) .leaf))))))
def fnB : BT Unit := (.node (.node (.node (.node (.node (.node (.node (.node .leaf 8 () .leaf) 11 () (.node .leaf 13 () .leaf)) 14 () (.node (.node .leaf 18 () .leaf) 21 () (.node .leaf 23 () .leaf))) 24 () (.node (.node (.node .leaf 25 () .leaf) 26 () (.node .leaf 33 () .leaf)) 36 () (.node (.node .leaf 37 () .leaf) 38 () .leaf))) 39 () (.node (.node (.node (.node .leaf 40 () .leaf) 43 () (.node .leaf 44 () .leaf)) 45 () (.node (.node .leaf 46 () .leaf) 48 () .leaf)) 49 () (.node (.node (.node .leaf 50 () .leaf) 51 () (.node .leaf 53 () .leaf)) 56 () (.node (.node .leaf 58 () .leaf) 59 () .leaf)))) 60 () (.node (.node (.node (.node (.node .leaf 61 () .leaf) 62 () (.node .leaf 63 () .leaf)) 64 () (.node (.node .leaf 65 () .leaf) 66 () (.node .leaf 67 () .leaf))) 71 () (.node (.node (.node .leaf 73 () .leaf) 75 () (.node .leaf 76 () .leaf)) 77 () (.node (.node .leaf 79 () .leaf) 81 () .leaf))) 82 () (.node (.node (.node (.node .leaf 83 () .leaf) 84 () (.node .leaf 85 () .leaf)) 86 () (.node (.node .leaf 87 () .leaf) 88 () .leaf)) 89 () (.node (.node (.node .leaf 90 () .leaf) 91 () (.node .leaf 95 () .leaf)) 96 () (.node (.node .leaf 97 () .leaf) 98 () .leaf))))) 99 () (.node (.node (.node (.node (.node (.node .leaf 102 () .leaf) 103 () (.node .leaf 107 () .leaf)) 109 () (.node (.node .leaf 110 () .leaf) 111 () (.node .leaf 112 () .leaf))) 113 () (.node (.node (.node .leaf 114 () .leaf) 115 () (.node .leaf 116 () .leaf)) 117 () (.node (.node .leaf 118 () .leaf) 119 () .leaf))) 120 () (.node (.node (.node (.node .leaf 121 () .leaf) 122 () (.node .leaf 123 () .leaf)) 124 () (.node (.node .leaf 126 () .leaf) 127 () .leaf)) 128 () (.node (.node (.node .leaf 129 () .leaf) 130 () (.node .leaf 131 () .leaf)) 132 () (.node (.node .leaf 133 () .leaf) 134 () .leaf)))) 135 () (.node (.node (.node (.node (.node .leaf 143 () .leaf) 144 () (.node .leaf 145 () .leaf)) 146 () (.node (.node .leaf 147 () .leaf) 148 () (.node .leaf 149 () .leaf))) 150 () (.node (.node (.node .leaf 151 () .leaf) 152 () (.node .leaf 153 () .leaf)) 154 () (.node (.node .leaf 155 () .leaf) 156 () .leaf))) 157 () (.node (.node (.node (.node .leaf 158 () .leaf) 159 () (.node .leaf 160 () .leaf)) 161 () (.node (.node .leaf 172 () .leaf) 173 () .leaf)) 174 () (.node (.node (.node .leaf 175 () .leaf) 176 () (.node .leaf 177 () .leaf)) 179 () (.node (.node .leaf 180 () .leaf) 181 () .leaf)))))) 182 () (.node (.node (.node (.node (.node (.node (.node .leaf 183 () .leaf) 184 () (.node .leaf 185 () .leaf)) 186 () (.node (.node .leaf 187 () .leaf) 188 () (.node .leaf 189 () .leaf))) 190 () (.node (.node (.node .leaf 191 () .leaf) 192 () (.node .leaf 193 () .leaf)) 194 () (.node (.node .leaf 195 () .leaf) 196 () .leaf))) 197 () (.node (.node (.node (.node .leaf 198 () .leaf) 199 () (.node .leaf 201 () .leaf)) 202 () (.node (.node .leaf 203 () .leaf) 204 () .leaf)) 205 () (.node (.node (.node .leaf 206 () .leaf) 207 () (.node .leaf 208 () .leaf)) 209 () (.node (.node .leaf 210 () .leaf) 211 () .leaf)))) 212 () (.node (.node (.node (.node (.node .leaf 213 () .leaf) 214 () (.node .leaf 215 () .leaf)) 224 () (.node (.node .leaf 225 () .leaf) 226 () (.node .leaf 227 () .leaf))) 228 () (.node (.node (.node .leaf 229 () .leaf) 230 () (.node .leaf 231 () .leaf)) 232 () (.node (.node .leaf 233 () .leaf) 239 () .leaf))) 240 () (.node (.node (.node (.node .leaf 241 () .leaf) 247 () (.node .leaf 249 () .leaf)) 250 () (.node (.node .leaf 251 () .leaf) 252 () .leaf)) 253 () (.node (.node (.node .leaf 256 () .leaf) 257 () (.node .leaf 258 () .leaf)) 261 () (.node (.node .leaf 262 () .leaf) 267 () .leaf))))) 268 () (.node (.node (.node (.node (.node (.node .leaf 269 () .leaf) 270 () (.node .leaf 271 () .leaf)) 272 () (.node (.node .leaf 273 () .leaf) 274 () (.node .leaf 275 () .leaf))) 276 () (.node (.node (.node .leaf 277 () .leaf) 278 () (.node .leaf 279 () .leaf)) 282 () (.node (.node .leaf 285 () .leaf) 286 () .leaf))) 287 () (.node (.node (.node (.node .leaf 292 () .leaf) 295 () (.node .leaf 296 () .leaf)) 297 () (.node (.node .leaf 298 () .leaf) 299 () .leaf)) 300 () (.node (.node (.node .leaf 301 () .leaf) 302 () (.node .leaf 303 () .leaf)) 309 () (.node (.node .leaf 311 () .leaf) 315 () .leaf)))) 317 () (.node (.node (.node (.node (.node .leaf 318 () .leaf) 321 () (.node .leaf 322 () .leaf)) 329 () (.node (.node .leaf 330 () .leaf) 331 () .leaf)) 332 () (.node (.node (.node .leaf 333 () .leaf) 334 () (.node .leaf 337 () .leaf)) 339 () (.node (.node .leaf 341 () .leaf) 342 () .leaf))) 343 () (.node (.node (.node (.node .leaf 344 () .leaf) 349 () (.node .leaf 350 () .leaf)) 351 () (.node (.node .leaf 360 () .leaf) 363 () .leaf)) 364 () (.node (.node (.node .leaf 365 () .leaf) 366 () (.node .leaf 367 () .leaf)) 368 () (.node (.node .leaf 375 () .leaf) 376 () .leaf)))))))
def BT.All {α : Type} (p : Nat × α → Prop) : BT α → Prop
  | .leaf => True
  | .node l k x r => l.All p ∧ p (k, x) ∧ r.All p
theorem lf {α : Type} {p : Nat × α → Prop} : BT.All p .leaf := trivial
theorem nd {α : Type} {p : Nat × α → Prop} {l r : BT α} {k : Nat} {x : α} (a : l.All p) (b : p (k, x)) (c : r.All p) : BT.All p (.node l k x r) := ⟨a, b, c⟩
theorem BT.all_mem {α : Type} {p : Nat × α → Prop} {y : Nat × α} : ∀ {b : BT α}, b.All p → y ∈ b.toL → p y
  | .leaf, _, h => by cases h
  | .node l k x r, ⟨h1, h2, h3⟩, h => by
    rw [BT.toL] at h
    rcases bIx.1 h with h | h
    · exact BT.all_mem h1 h
    · rcases bI7.1 h with rfl | h
      · exact h2
      · exact BT.all_mem h3 h
noncomputable def T : Tab := { prog := Tryz.prog, und := aGq bFt, inf := aGq bFu, fn := fun f => (aGq fnB f).isSome, room := False }
theorem bFv : bFt.All fun x => Tryz.prog.underlying x.1 = some x.2 := (nd (nd (nd (nd (nd (nd (nd lf Tryz.underlying1 lf) Tryz.underlying2 lf) Tryz.underlying3 (nd lf Tryz.underlying4 lf)) Tryz.underlying5 (nd (nd lf Tryz.underlying9 lf) Tryz.underlying22 (nd lf Tryz.underlying24 lf))) Tryz.underlying25 (nd (nd (nd lf Tryz.underlying27 lf) Tryz.underlying28 (nd lf Tryz.underlying32 lf)) Tryz.underlying34 (nd (nd lf Tryz.underlying39 lf) Tryz.underlying42 (nd lf Tryz.underlying44 lf)))) Tryz.underlying64 (nd (nd (nd (nd (nd lf Tryz.underlying65 lf) Tryz.underlying72 lf) Tryz.underlying74 (nd lf Tryz.underlying79 lf)) Tryz.underlying80 (nd (nd lf Tryz.underlying90 lf) Tryz.underlying91 (nd lf Tryz.underlying94 lf))) Tryz.underlying96 (nd (nd (nd lf Tryz.underlying98 lf) Tryz.underlying107 (nd lf Tryz.underlying109 lf)) Tryz.underlying133 (nd (nd lf Tryz.underlying136 lf) Tryz.underlying139 (nd lf Tryz.underlying144 lf))))) Tryz.underlying150 (nd (nd (nd (nd (nd (nd lf Tryz.underlying153 lf) Tryz.underlying164 lf) Tryz.underlying172 (nd lf Tryz.underlying173 lf)) Tryz.underlying175 (nd (nd lf Tryz.underlying191 lf) Tryz.underlying196 (nd lf Tryz.underlying198 lf))) Tryz.underlying199 (nd (nd (nd lf Tryz.underlying205 lf) Tryz.underlying222 (nd lf Tryz.underlying228 lf)) Tryz.underlying232 (nd (nd lf Tryz.underlying235 lf) Tryz.underlying238 (nd lf Tryz.underlying240 lf)))) Tryz.underlying242 (nd (nd (nd (nd (nd lf Tryz.underlying253 lf) Tryz.underlying267 lf) Tryz.underlying271 (nd lf Tryz.underlying289 lf)) Tryz.underlying292 (nd (nd lf Tryz.underlying306 lf) Tryz.underlying308 (nd lf Tryz.underlying309 lf))) Tryz.underlying310 (nd (nd (nd lf Tryz.underlying312 lf) Tryz.underlying321 (nd lf Tryz.underlying336 lf)) Tryz.underlying350 (nd (nd lf Tryz.underlying360 lf) Tryz.underlying361 (nd lf Tryz.underlying371 lf))))))
theorem bFw : bFu.All fun x => ∃ i v, Tryz.prog.info? x.1 = some i ∧ i.zero = some v ∧ v.cells = x.2.1.toArray ∧ i.size = x.2.1.length ∧ i.bytes = x.2.2 := (nd (nd (nd (nd (nd (nd (nd lf ⟨Tryz.t1, _, by kernel_rfl, rfl, rfl, rfl, rfl⟩ lf) ⟨Tryz.t2, _, by kernel_rfl, rfl, rfl, rfl, rfl⟩ lf) ⟨Tryz.t3, _, by kernel_rfl, rfl, rfl, rfl, rfl⟩ (nd lf ⟨Tryz.t4, _, by kernel_rfl, rfl, rfl, rfl, rfl⟩ lf)) ⟨Tryz.t5, _, by kernel_rfl, rfl, rfl, rfl, rfl⟩ (nd (nd lf ⟨Tryz.t9, _, by kernel_rfl, rfl, rfl, rfl, rfl⟩ lf) ⟨Tryz.t22, _, by kernel_rfl, rfl, rfl, rfl, rfl⟩ (nd lf ⟨Tryz.t24, _, by kernel_rfl, rfl, rfl, rfl, rfl⟩ lf))) ⟨Tryz.t25, _, by kernel_rfl, rfl, rfl, rfl, rfl⟩ (nd (nd (nd lf ⟨Tryz.t27, _, by kernel_rfl, rfl, rfl, rfl, rfl⟩ lf) ⟨Tryz.t28, _, by kernel_rfl, rfl, rfl, rfl, rfl⟩ (nd lf ⟨Tryz.t32, _, by kernel_rfl, rfl, rfl, rfl, rfl⟩ lf)) ⟨Tryz.t34, _, by kernel_rfl, rfl, rfl, rfl, rfl⟩ (nd (nd lf ⟨Tryz.t39, _, by kernel_rfl, rfl, rfl, rfl, rfl⟩ lf) ⟨Tryz.t42, _, by kernel_rfl, rfl, rfl, rfl, rfl⟩ (nd lf ⟨Tryz.t44, _, by kernel_rfl, rfl, rfl, rfl, rfl⟩ lf)))) ⟨Tryz.t64, _, by kernel_rfl, rfl, rfl, rfl, rfl⟩ (nd (nd (nd (nd (nd lf ⟨Tryz.t65, _, by kernel_rfl, rfl, rfl, rfl, rfl⟩ lf) ⟨Tryz.t72, _, by kernel_rfl, rfl, rfl, rfl, rfl⟩ lf) ⟨Tryz.t74, _, by kernel_rfl, rfl, rfl, rfl, rfl⟩ (nd lf ⟨Tryz.t79, _, by kernel_rfl, rfl, rfl, rfl, rfl⟩ lf)) ⟨Tryz.t80, _, by kernel_rfl, rfl, rfl, rfl, rfl⟩ (nd (nd lf ⟨Tryz.t90, _, by kernel_rfl, rfl, rfl, rfl, rfl⟩ lf) ⟨Tryz.t91, _, by kernel_rfl, rfl, rfl, rfl, rfl⟩ (nd lf ⟨Tryz.t94, _, by kernel_rfl, rfl, rfl, rfl, rfl⟩ lf))) ⟨Tryz.t96, _, by kernel_rfl, rfl, rfl, rfl, rfl⟩ (nd (nd (nd lf ⟨Tryz.t98, _, by kernel_rfl, rfl, rfl, rfl, rfl⟩ lf) ⟨Tryz.t107, _, by kernel_rfl, rfl, rfl, rfl, rfl⟩ (nd lf ⟨Tryz.t109, _, by kernel_rfl, rfl, rfl, rfl, rfl⟩ lf)) ⟨Tryz.t133, _, by kernel_rfl, rfl, rfl, rfl, rfl⟩ (nd (nd lf ⟨Tryz.t136, _, by kernel_rfl, rfl, rfl, rfl, rfl⟩ lf) ⟨Tryz.t139, _, by kernel_rfl, rfl, rfl, rfl, rfl⟩ (nd lf ⟨Tryz.t144, _, by kernel_rfl, rfl, rfl, rfl, rfl⟩ lf))))) ⟨Tryz.t150, _, by kernel_rfl, rfl, rfl, rfl, rfl⟩ (nd (nd (nd (nd (nd (nd lf ⟨Tryz.t153, _, by kernel_rfl, rfl, rfl, rfl, rfl⟩ lf) ⟨Tryz.t164, _, by kernel_rfl, rfl, rfl, rfl, rfl⟩ lf) ⟨Tryz.t172, _, by kernel_rfl, rfl, rfl, rfl, rfl⟩ (nd lf ⟨Tryz.t173, _, by kernel_rfl, rfl, rfl, rfl, rfl⟩ lf)) ⟨Tryz.t175, _, by kernel_rfl, rfl, rfl, rfl, rfl⟩ (nd (nd lf ⟨Tryz.t191, _, by kernel_rfl, rfl, rfl, rfl, rfl⟩ lf) ⟨Tryz.t196, _, by kernel_rfl, rfl, rfl, rfl, rfl⟩ (nd lf ⟨Tryz.t198, _, by kernel_rfl, rfl, rfl, rfl, rfl⟩ lf))) ⟨Tryz.t199, _, by kernel_rfl, rfl, rfl, rfl, rfl⟩ (nd (nd (nd lf ⟨Tryz.t205, _, by kernel_rfl, rfl, rfl, rfl, rfl⟩ lf) ⟨Tryz.t222, _, by kernel_rfl, rfl, rfl, rfl, rfl⟩ (nd lf ⟨Tryz.t228, _, by kernel_rfl, rfl, rfl, rfl, rfl⟩ lf)) ⟨Tryz.t232, _, by kernel_rfl, rfl, rfl, rfl, rfl⟩ (nd (nd lf ⟨Tryz.t235, _, by kernel_rfl, rfl, rfl, rfl, rfl⟩ lf) ⟨Tryz.t238, _, by kernel_rfl, rfl, rfl, rfl, rfl⟩ (nd lf ⟨Tryz.t240, _, by kernel_rfl, rfl, rfl, rfl, rfl⟩ lf)))) ⟨Tryz.t242, _, by kernel_rfl, rfl, rfl, rfl, rfl⟩ (nd (nd (nd (nd lf ⟨Tryz.t253, _, by kernel_rfl, rfl, rfl, rfl, rfl⟩ lf) ⟨Tryz.t271, _, by kernel_rfl, rfl, rfl, rfl, rfl⟩ (nd lf ⟨Tryz.t289, _, by kernel_rfl, rfl, rfl, rfl, rfl⟩ lf)) ⟨Tryz.t292, _, by kernel_rfl, rfl, rfl, rfl, rfl⟩ (nd (nd lf ⟨Tryz.t306, _, by kernel_rfl, rfl, rfl, rfl, rfl⟩ lf) ⟨Tryz.t308, _, by kernel_rfl, rfl, rfl, rfl, rfl⟩ (nd lf ⟨Tryz.t309, _, by kernel_rfl, rfl, rfl, rfl, rfl⟩ lf))) ⟨Tryz.t310, _, by kernel_rfl, rfl, rfl, rfl, rfl⟩ (nd (nd (nd lf ⟨Tryz.t312, _, by kernel_rfl, rfl, rfl, rfl, rfl⟩ lf) ⟨Tryz.t318, _, by kernel_rfl, rfl, rfl, rfl, rfl⟩ (nd lf ⟨Tryz.t321, _, by kernel_rfl, rfl, rfl, rfl, rfl⟩ lf)) ⟨Tryz.t336, _, by kernel_rfl, rfl, rfl, rfl, rfl⟩ (nd (nd lf ⟨Tryz.t350, _, by kernel_rfl, rfl, rfl, rfl, rfl⟩ lf) ⟨Tryz.t360, _, by kernel_rfl, rfl, rfl, rfl, rfl⟩ (nd lf ⟨Tryz.t371, _, by kernel_rfl, rfl, rfl, rfl, rfl⟩ lf))))))
theorem bHm : fnB.All fun x => ∀ args w, (callFunc x.1 args).run Tryz.prog w = .ok (.enter x.1 args) w := (nd (nd (nd (nd (nd (nd (nd (nd lf Tryz.call8 lf) Tryz.call11 (nd lf Tryz.call13 lf)) Tryz.call14 (nd (nd lf Tryz.call18 lf) Tryz.call21 (nd lf Tryz.call23 lf))) Tryz.call24 (nd (nd (nd lf Tryz.call25 lf) Tryz.call26 (nd lf Tryz.call33 lf)) Tryz.call36 (nd (nd lf Tryz.call37 lf) Tryz.call38 lf))) Tryz.call39 (nd (nd (nd (nd lf Tryz.call40 lf) Tryz.call43 (nd lf Tryz.call44 lf)) Tryz.call45 (nd (nd lf Tryz.call46 lf) Tryz.call48 lf)) Tryz.call49 (nd (nd (nd lf Tryz.call50 lf) Tryz.call51 (nd lf Tryz.call53 lf)) Tryz.call56 (nd (nd lf Tryz.call58 lf) Tryz.call59 lf)))) Tryz.call60 (nd (nd (nd (nd (nd lf Tryz.call61 lf) Tryz.call62 (nd lf Tryz.call63 lf)) Tryz.call64 (nd (nd lf Tryz.call65 lf) Tryz.call66 (nd lf Tryz.call67 lf))) Tryz.call71 (nd (nd (nd lf Tryz.call73 lf) Tryz.call75 (nd lf Tryz.call76 lf)) Tryz.call77 (nd (nd lf Tryz.call79 lf) Tryz.call81 lf))) Tryz.call82 (nd (nd (nd (nd lf Tryz.call83 lf) Tryz.call84 (nd lf Tryz.call85 lf)) Tryz.call86 (nd (nd lf Tryz.call87 lf) Tryz.call88 lf)) Tryz.call89 (nd (nd (nd lf Tryz.call90 lf) Tryz.call91 (nd lf Tryz.call95 lf)) Tryz.call96 (nd (nd lf Tryz.call97 lf) Tryz.call98 lf))))) Tryz.call99 (nd (nd (nd (nd (nd (nd lf Tryz.call102 lf) Tryz.call103 (nd lf Tryz.call107 lf)) Tryz.call109 (nd (nd lf Tryz.call110 lf) Tryz.call111 (nd lf Tryz.call112 lf))) Tryz.call113 (nd (nd (nd lf Tryz.call114 lf) Tryz.call115 (nd lf Tryz.call116 lf)) Tryz.call117 (nd (nd lf Tryz.call118 lf) Tryz.call119 lf))) Tryz.call120 (nd (nd (nd (nd lf Tryz.call121 lf) Tryz.call122 (nd lf Tryz.call123 lf)) Tryz.call124 (nd (nd lf Tryz.call126 lf) Tryz.call127 lf)) Tryz.call128 (nd (nd (nd lf Tryz.call129 lf) Tryz.call130 (nd lf Tryz.call131 lf)) Tryz.call132 (nd (nd lf Tryz.call133 lf) Tryz.call134 lf)))) Tryz.call135 (nd (nd (nd (nd (nd lf Tryz.call143 lf) Tryz.call144 (nd lf Tryz.call145 lf)) Tryz.call146 (nd (nd lf Tryz.call147 lf) Tryz.call148 (nd lf Tryz.call149 lf))) Tryz.call150 (nd (nd (nd lf Tryz.call151 lf) Tryz.call152 (nd lf Tryz.call153 lf)) Tryz.call154 (nd (nd lf Tryz.call155 lf) Tryz.call156 lf))) Tryz.call157 (nd (nd (nd (nd lf Tryz.call158 lf) Tryz.call159 (nd lf Tryz.call160 lf)) Tryz.call161 (nd (nd lf Tryz.call172 lf) Tryz.call173 lf)) Tryz.call174 (nd (nd (nd lf Tryz.call175 lf) Tryz.call176 (nd lf Tryz.call177 lf)) Tryz.call179 (nd (nd lf Tryz.call180 lf) Tryz.call181 lf)))))) Tryz.call182 (nd (nd (nd (nd (nd (nd (nd lf Tryz.call183 lf) Tryz.call184 (nd lf Tryz.call185 lf)) Tryz.call186 (nd (nd lf Tryz.call187 lf) Tryz.call188 (nd lf Tryz.call189 lf))) Tryz.call190 (nd (nd (nd lf Tryz.call191 lf) Tryz.call192 (nd lf Tryz.call193 lf)) Tryz.call194 (nd (nd lf Tryz.call195 lf) Tryz.call196 lf))) Tryz.call197 (nd (nd (nd (nd lf Tryz.call198 lf) Tryz.call199 (nd lf Tryz.call201 lf)) Tryz.call202 (nd (nd lf Tryz.call203 lf) Tryz.call204 lf)) Tryz.call205 (nd (nd (nd lf Tryz.call206 lf) Tryz.call207 (nd lf Tryz.call208 lf)) Tryz.call209 (nd (nd lf Tryz.call210 lf) Tryz.call211 lf)))) Tryz.call212 (nd (nd (nd (nd (nd lf Tryz.call213 lf) Tryz.call214 (nd lf Tryz.call215 lf)) Tryz.call224 (nd (nd lf Tryz.call225 lf) Tryz.call226 (nd lf Tryz.call227 lf))) Tryz.call228 (nd (nd (nd lf Tryz.call229 lf) Tryz.call230 (nd lf Tryz.call231 lf)) Tryz.call232 (nd (nd lf Tryz.call233 lf) Tryz.call239 lf))) Tryz.call240 (nd (nd (nd (nd lf Tryz.call241 lf) Tryz.call247 (nd lf Tryz.call249 lf)) Tryz.call250 (nd (nd lf Tryz.call251 lf) Tryz.call252 lf)) Tryz.call253 (nd (nd (nd lf Tryz.call256 lf) Tryz.call257 (nd lf Tryz.call258 lf)) Tryz.call261 (nd (nd lf Tryz.call262 lf) Tryz.call267 lf))))) Tryz.call268 (nd (nd (nd (nd (nd (nd lf Tryz.call269 lf) Tryz.call270 (nd lf Tryz.call271 lf)) Tryz.call272 (nd (nd lf Tryz.call273 lf) Tryz.call274 (nd lf Tryz.call275 lf))) Tryz.call276 (nd (nd (nd lf Tryz.call277 lf) Tryz.call278 (nd lf Tryz.call279 lf)) Tryz.call282 (nd (nd lf Tryz.call285 lf) Tryz.call286 lf))) Tryz.call287 (nd (nd (nd (nd lf Tryz.call292 lf) Tryz.call295 (nd lf Tryz.call296 lf)) Tryz.call297 (nd (nd lf Tryz.call298 lf) Tryz.call299 lf)) Tryz.call300 (nd (nd (nd lf Tryz.call301 lf) Tryz.call302 (nd lf Tryz.call303 lf)) Tryz.call309 (nd (nd lf Tryz.call311 lf) Tryz.call315 lf)))) Tryz.call317 (nd (nd (nd (nd (nd lf Tryz.call318 lf) Tryz.call321 (nd lf Tryz.call322 lf)) Tryz.call329 (nd (nd lf Tryz.call330 lf) Tryz.call331 lf)) Tryz.call332 (nd (nd (nd lf Tryz.call333 lf) Tryz.call334 (nd lf Tryz.call337 lf)) Tryz.call339 (nd (nd lf Tryz.call341 lf) Tryz.call342 lf))) Tryz.call343 (nd (nd (nd (nd lf Tryz.call344 lf) Tryz.call349 (nd lf Tryz.call350 lf)) Tryz.call351 (nd (nd lf Tryz.call360 lf) Tryz.call363 lf)) Tryz.call364 (nd (nd (nd lf Tryz.call365 lf) Tryz.call366 (nd lf Tryz.call367 lf)) Tryz.call368 (nd (nd lf Tryz.call375 lf) Tryz.call376 lf)))))))
theorem bAh : Tryz.prog.follows .mixedOrders = true := by kernel_rfl
theorem ok : T.Ok where
  und t d h := BT.all_mem (y := (t, d)) bFv (sW h)
  inf t z n h := BT.all_mem (y := (t, (z, n))) bFw (sW h)
  fn f h args w := by
    obtain ⟨x, hx⟩ := Option.isSome_iff_exists.1 (show (aGq fnB f).isSome = true from h)
    exact BT.all_mem bHm (sW hx) args w
  mixed := bAh
abbrev F.q8 : Nat := 8
theorem D.q8 : T.prog.funcs[F.q8]? = some Tryz.f8 := Tryz.func8
abbrev F.q11 : Nat := 11
theorem D.q11 : T.prog.funcs[F.q11]? = some Tryz.f11 := Tryz.func11
abbrev F.q13 : Nat := 13
theorem D.q13 : T.prog.funcs[F.q13]? = some Tryz.f13 := Tryz.func13
abbrev F.q14 : Nat := 14
theorem D.q14 : T.prog.funcs[F.q14]? = some Tryz.f14 := Tryz.func14
abbrev F.q18 : Nat := 18
theorem D.q18 : T.prog.funcs[F.q18]? = some Tryz.f18 := Tryz.func18
abbrev F.q21 : Nat := 21
theorem D.q21 : T.prog.funcs[F.q21]? = some Tryz.f21 := Tryz.func21
abbrev F.q23 : Nat := 23
theorem D.q23 : T.prog.funcs[F.q23]? = some Tryz.f23 := Tryz.func23
abbrev F.q24 : Nat := 24
theorem D.q24 : T.prog.funcs[F.q24]? = some Tryz.f24 := Tryz.func24
abbrev F.q25 : Nat := 25
theorem D.q25 : T.prog.funcs[F.q25]? = some Tryz.f25 := Tryz.func25
abbrev F.q26 : Nat := 26
theorem D.q26 : T.prog.funcs[F.q26]? = some Tryz.f26 := Tryz.func26
abbrev F.q33 : Nat := 33
theorem D.q33 : T.prog.funcs[F.q33]? = some Tryz.f33 := Tryz.func33
abbrev F.q36 : Nat := 36
theorem D.q36 : T.prog.funcs[F.q36]? = some Tryz.f36 := Tryz.func36
abbrev F.q37 : Nat := 37
theorem D.q37 : T.prog.funcs[F.q37]? = some Tryz.f37 := Tryz.func37
abbrev F.q38 : Nat := 38
theorem D.q38 : T.prog.funcs[F.q38]? = some Tryz.f38 := Tryz.func38
abbrev F.q39 : Nat := 39
theorem D.q39 : T.prog.funcs[F.q39]? = some Tryz.f39 := Tryz.func39
abbrev F.q40 : Nat := 40
theorem D.q40 : T.prog.funcs[F.q40]? = some Tryz.f40 := Tryz.func40
abbrev F.q43 : Nat := 43
theorem D.q43 : T.prog.funcs[F.q43]? = some Tryz.f43 := Tryz.func43
abbrev F.q44 : Nat := 44
theorem D.q44 : T.prog.funcs[F.q44]? = some Tryz.f44 := Tryz.func44
abbrev F.q45 : Nat := 45
theorem D.q45 : T.prog.funcs[F.q45]? = some Tryz.f45 := Tryz.func45
abbrev F.q46 : Nat := 46
theorem D.q46 : T.prog.funcs[F.q46]? = some Tryz.f46 := Tryz.func46
abbrev F.q48 : Nat := 48
abbrev F.q49 : Nat := 49
theorem D.q49 : T.prog.funcs[F.q49]? = some Tryz.f49 := Tryz.func49
abbrev F.q50 : Nat := 50
theorem D.q50 : T.prog.funcs[F.q50]? = some Tryz.f50 := Tryz.func50
abbrev F.q51 : Nat := 51
theorem D.q51 : T.prog.funcs[F.q51]? = some Tryz.f51 := Tryz.func51
abbrev F.q53 : Nat := 53
theorem D.q53 : T.prog.funcs[F.q53]? = some Tryz.f53 := Tryz.func53
abbrev F.q56 : Nat := 56
theorem D.q56 : T.prog.funcs[F.q56]? = some Tryz.f56 := Tryz.func56
abbrev F.q58 : Nat := 58
theorem D.q58 : T.prog.funcs[F.q58]? = some Tryz.f58 := Tryz.func58
abbrev F.q59 : Nat := 59
theorem D.q59 : T.prog.funcs[F.q59]? = some Tryz.f59 := Tryz.func59
abbrev F.q60 : Nat := 60
theorem D.q60 : T.prog.funcs[F.q60]? = some Tryz.f60 := Tryz.func60
abbrev F.q61 : Nat := 61
theorem D.q61 : T.prog.funcs[F.q61]? = some Tryz.f61 := Tryz.func61
abbrev F.q62 : Nat := 62
theorem D.q62 : T.prog.funcs[F.q62]? = some Tryz.f62 := Tryz.func62
abbrev F.q63 : Nat := 63
abbrev F.q64 : Nat := 64
theorem D.q64 : T.prog.funcs[F.q64]? = some Tryz.f64 := Tryz.func64
abbrev F.q65 : Nat := 65
theorem D.q65 : T.prog.funcs[F.q65]? = some Tryz.f65 := Tryz.func65
abbrev F.q66 : Nat := 66
theorem D.q66 : T.prog.funcs[F.q66]? = some Tryz.f66 := Tryz.func66
abbrev F.q67 : Nat := 67
theorem D.q67 : T.prog.funcs[F.q67]? = some Tryz.f67 := Tryz.func67
abbrev F.q71 : Nat := 71
theorem D.q71 : T.prog.funcs[F.q71]? = some Tryz.f71 := Tryz.func71
abbrev F.q73 : Nat := 73
theorem D.q73 : T.prog.funcs[F.q73]? = some Tryz.f73 := Tryz.func73
abbrev F.q75 : Nat := 75
theorem D.q75 : T.prog.funcs[F.q75]? = some Tryz.f75 := Tryz.func75
abbrev F.q76 : Nat := 76
theorem D.q76 : T.prog.funcs[F.q76]? = some Tryz.f76 := Tryz.func76
abbrev F.q77 : Nat := 77
theorem D.q77 : T.prog.funcs[F.q77]? = some Tryz.f77 := Tryz.func77
abbrev F.q79 : Nat := 79
theorem D.q79 : T.prog.funcs[F.q79]? = some Tryz.f79 := Tryz.func79
abbrev F.q81 : Nat := 81
theorem D.q81 : T.prog.funcs[F.q81]? = some Tryz.f81 := Tryz.func81
abbrev F.q82 : Nat := 82
theorem D.q82 : T.prog.funcs[F.q82]? = some Tryz.f82 := Tryz.func82
abbrev F.q83 : Nat := 83
abbrev F.q84 : Nat := 84
theorem D.q84 : T.prog.funcs[F.q84]? = some Tryz.f84 := Tryz.func84
abbrev F.q85 : Nat := 85
theorem D.q85 : T.prog.funcs[F.q85]? = some Tryz.f85 := Tryz.func85
abbrev F.q86 : Nat := 86
theorem D.q86 : T.prog.funcs[F.q86]? = some Tryz.f86 := Tryz.func86
abbrev F.q87 : Nat := 87
theorem D.q87 : T.prog.funcs[F.q87]? = some Tryz.f87 := Tryz.func87
abbrev F.q88 : Nat := 88
theorem D.q88 : T.prog.funcs[F.q88]? = some Tryz.f88 := Tryz.func88
abbrev F.q89 : Nat := 89
theorem D.q89 : T.prog.funcs[F.q89]? = some Tryz.f89 := Tryz.func89
abbrev F.q90 : Nat := 90
theorem D.q90 : T.prog.funcs[F.q90]? = some Tryz.f90 := Tryz.func90
abbrev F.q91 : Nat := 91
theorem D.q91 : T.prog.funcs[F.q91]? = some Tryz.f91 := Tryz.func91
abbrev F.q95 : Nat := 95
abbrev F.q96 : Nat := 96
theorem D.q96 : T.prog.funcs[F.q96]? = some Tryz.f96 := Tryz.func96
abbrev F.q97 : Nat := 97
theorem D.q97 : T.prog.funcs[F.q97]? = some Tryz.f97 := Tryz.func97
abbrev F.q98 : Nat := 98
theorem D.q98 : T.prog.funcs[F.q98]? = some Tryz.f98 := Tryz.func98
abbrev F.q99 : Nat := 99
theorem D.q99 : T.prog.funcs[F.q99]? = some Tryz.f99 := Tryz.func99
abbrev F.q102 : Nat := 102
theorem D.q102 : T.prog.funcs[F.q102]? = some Tryz.f102 := Tryz.func102
abbrev F.q103 : Nat := 103
theorem D.q103 : T.prog.funcs[F.q103]? = some Tryz.f103 := Tryz.func103
abbrev F.q107 : Nat := 107
theorem D.q107 : T.prog.funcs[F.q107]? = some Tryz.f107 := Tryz.func107
abbrev F.q109 : Nat := 109
theorem D.q109 : T.prog.funcs[F.q109]? = some Tryz.f109 := Tryz.func109
abbrev F.q110 : Nat := 110
theorem D.q110 : T.prog.funcs[F.q110]? = some Tryz.f110 := Tryz.func110
abbrev F.q111 : Nat := 111
theorem D.q111 : T.prog.funcs[F.q111]? = some Tryz.f111 := Tryz.func111
abbrev F.q112 : Nat := 112
theorem D.q112 : T.prog.funcs[F.q112]? = some Tryz.f112 := Tryz.func112
abbrev F.q113 : Nat := 113
abbrev F.q114 : Nat := 114
abbrev F.q115 : Nat := 115
theorem D.q115 : T.prog.funcs[F.q115]? = some Tryz.f115 := Tryz.func115
abbrev F.q116 : Nat := 116
theorem D.q116 : T.prog.funcs[F.q116]? = some Tryz.f116 := Tryz.func116
abbrev F.q117 : Nat := 117
theorem D.q117 : T.prog.funcs[F.q117]? = some Tryz.f117 := Tryz.func117
abbrev F.q118 : Nat := 118
theorem D.q118 : T.prog.funcs[F.q118]? = some Tryz.f118 := Tryz.func118
abbrev F.q119 : Nat := 119
theorem D.q119 : T.prog.funcs[F.q119]? = some Tryz.f119 := Tryz.func119
abbrev F.q120 : Nat := 120
theorem D.q120 : T.prog.funcs[F.q120]? = some Tryz.f120 := Tryz.func120
abbrev F.q121 : Nat := 121
theorem D.q121 : T.prog.funcs[F.q121]? = some Tryz.f121 := Tryz.func121
abbrev F.q122 : Nat := 122
theorem D.q122 : T.prog.funcs[F.q122]? = some Tryz.f122 := Tryz.func122
abbrev F.q123 : Nat := 123
theorem D.q123 : T.prog.funcs[F.q123]? = some Tryz.f123 := Tryz.func123
abbrev F.q124 : Nat := 124
theorem D.q124 : T.prog.funcs[F.q124]? = some Tryz.f124 := Tryz.func124
abbrev F.q126 : Nat := 126
theorem D.q126 : T.prog.funcs[F.q126]? = some Tryz.f126 := Tryz.func126
abbrev F.q127 : Nat := 127
theorem D.q127 : T.prog.funcs[F.q127]? = some Tryz.f127 := Tryz.func127
abbrev F.q128 : Nat := 128
theorem D.q128 : T.prog.funcs[F.q128]? = some Tryz.f128 := Tryz.func128
abbrev F.q129 : Nat := 129
theorem D.q129 : T.prog.funcs[F.q129]? = some Tryz.f129 := Tryz.func129
abbrev F.q130 : Nat := 130
theorem D.q130 : T.prog.funcs[F.q130]? = some Tryz.f130 := Tryz.func130
abbrev F.q131 : Nat := 131
theorem D.q131 : T.prog.funcs[F.q131]? = some Tryz.f131 := Tryz.func131
abbrev F.q132 : Nat := 132
theorem D.q132 : T.prog.funcs[F.q132]? = some Tryz.f132 := Tryz.func132
abbrev F.q133 : Nat := 133
theorem D.q133 : T.prog.funcs[F.q133]? = some Tryz.f133 := Tryz.func133
abbrev F.q134 : Nat := 134
theorem D.q134 : T.prog.funcs[F.q134]? = some Tryz.f134 := Tryz.func134
abbrev F.q135 : Nat := 135
theorem D.q135 : T.prog.funcs[F.q135]? = some Tryz.f135 := Tryz.func135
abbrev F.q143 : Nat := 143
theorem D.q143 : T.prog.funcs[F.q143]? = some Tryz.f143 := Tryz.func143
abbrev F.q144 : Nat := 144
theorem D.q144 : T.prog.funcs[F.q144]? = some Tryz.f144 := Tryz.func144
abbrev F.q145 : Nat := 145
theorem D.q145 : T.prog.funcs[F.q145]? = some Tryz.f145 := Tryz.func145
abbrev F.q146 : Nat := 146
theorem D.q146 : T.prog.funcs[F.q146]? = some Tryz.f146 := Tryz.func146
abbrev F.q147 : Nat := 147
theorem D.q147 : T.prog.funcs[F.q147]? = some Tryz.f147 := Tryz.func147
abbrev F.q148 : Nat := 148
theorem D.q148 : T.prog.funcs[F.q148]? = some Tryz.f148 := Tryz.func148
abbrev F.q149 : Nat := 149
theorem D.q149 : T.prog.funcs[F.q149]? = some Tryz.f149 := Tryz.func149
abbrev F.q150 : Nat := 150
abbrev F.q151 : Nat := 151
theorem D.q151 : T.prog.funcs[F.q151]? = some Tryz.f151 := Tryz.func151
abbrev F.q152 : Nat := 152
theorem D.q152 : T.prog.funcs[F.q152]? = some Tryz.f152 := Tryz.func152
abbrev F.q153 : Nat := 153
theorem D.q153 : T.prog.funcs[F.q153]? = some Tryz.f153 := Tryz.func153
abbrev F.q154 : Nat := 154
theorem D.q154 : T.prog.funcs[F.q154]? = some Tryz.f154 := Tryz.func154
abbrev F.q155 : Nat := 155
theorem D.q155 : T.prog.funcs[F.q155]? = some Tryz.f155 := Tryz.func155
abbrev F.q156 : Nat := 156
theorem D.q156 : T.prog.funcs[F.q156]? = some Tryz.f156 := Tryz.func156
abbrev F.q157 : Nat := 157
theorem D.q157 : T.prog.funcs[F.q157]? = some Tryz.f157 := Tryz.func157
abbrev F.q158 : Nat := 158
theorem D.q158 : T.prog.funcs[F.q158]? = some Tryz.f158 := Tryz.func158
abbrev F.q159 : Nat := 159
theorem D.q159 : T.prog.funcs[F.q159]? = some Tryz.f159 := Tryz.func159
abbrev F.q160 : Nat := 160
theorem D.q160 : T.prog.funcs[F.q160]? = some Tryz.f160 := Tryz.func160
abbrev F.q161 : Nat := 161
theorem D.q161 : T.prog.funcs[F.q161]? = some Tryz.f161 := Tryz.func161
abbrev F.q172 : Nat := 172
theorem D.q172 : T.prog.funcs[F.q172]? = some Tryz.f172 := Tryz.func172
abbrev F.q173 : Nat := 173
theorem D.q173 : T.prog.funcs[F.q173]? = some Tryz.f173 := Tryz.func173
abbrev F.q174 : Nat := 174
theorem D.q174 : T.prog.funcs[F.q174]? = some Tryz.f174 := Tryz.func174
abbrev F.q175 : Nat := 175
theorem D.q175 : T.prog.funcs[F.q175]? = some Tryz.f175 := Tryz.func175
abbrev F.q176 : Nat := 176
theorem D.q176 : T.prog.funcs[F.q176]? = some Tryz.f176 := Tryz.func176
abbrev F.q177 : Nat := 177
theorem D.q177 : T.prog.funcs[F.q177]? = some Tryz.f177 := Tryz.func177
abbrev F.q179 : Nat := 179
theorem D.q179 : T.prog.funcs[F.q179]? = some Tryz.f179 := Tryz.func179
abbrev F.q180 : Nat := 180
theorem D.q180 : T.prog.funcs[F.q180]? = some Tryz.f180 := Tryz.func180
abbrev F.q181 : Nat := 181
theorem D.q181 : T.prog.funcs[F.q181]? = some Tryz.f181 := Tryz.func181
abbrev F.q182 : Nat := 182
theorem D.q182 : T.prog.funcs[F.q182]? = some Tryz.f182 := Tryz.func182
abbrev F.q183 : Nat := 183
theorem D.q183 : T.prog.funcs[F.q183]? = some Tryz.f183 := Tryz.func183
abbrev F.q184 : Nat := 184
abbrev F.q185 : Nat := 185
abbrev F.q186 : Nat := 186
theorem D.q186 : T.prog.funcs[F.q186]? = some Tryz.f186 := Tryz.func186
abbrev F.q187 : Nat := 187
theorem D.q187 : T.prog.funcs[F.q187]? = some Tryz.f187 := Tryz.func187
abbrev F.q188 : Nat := 188
theorem D.q188 : T.prog.funcs[F.q188]? = some Tryz.f188 := Tryz.func188
abbrev F.q189 : Nat := 189
theorem D.q189 : T.prog.funcs[F.q189]? = some Tryz.f189 := Tryz.func189
abbrev F.q190 : Nat := 190
theorem D.q190 : T.prog.funcs[F.q190]? = some Tryz.f190 := Tryz.func190
abbrev F.q191 : Nat := 191
theorem D.q191 : T.prog.funcs[F.q191]? = some Tryz.f191 := Tryz.func191
abbrev F.q192 : Nat := 192
theorem D.q192 : T.prog.funcs[F.q192]? = some Tryz.f192 := Tryz.func192
abbrev F.q193 : Nat := 193
theorem D.q193 : T.prog.funcs[F.q193]? = some Tryz.f193 := Tryz.func193
abbrev F.q194 : Nat := 194
theorem D.q194 : T.prog.funcs[F.q194]? = some Tryz.f194 := Tryz.func194
abbrev F.q195 : Nat := 195
theorem D.q195 : T.prog.funcs[F.q195]? = some Tryz.f195 := Tryz.func195
abbrev F.q196 : Nat := 196
theorem D.q196 : T.prog.funcs[F.q196]? = some Tryz.f196 := Tryz.func196
abbrev F.q197 : Nat := 197
theorem D.q197 : T.prog.funcs[F.q197]? = some Tryz.f197 := Tryz.func197
abbrev F.q198 : Nat := 198
theorem D.q198 : T.prog.funcs[F.q198]? = some Tryz.f198 := Tryz.func198
abbrev F.q199 : Nat := 199
theorem D.q199 : T.prog.funcs[F.q199]? = some Tryz.f199 := Tryz.func199
abbrev F.q201 : Nat := 201
theorem D.q201 : T.prog.funcs[F.q201]? = some Tryz.f201 := Tryz.func201
abbrev F.q202 : Nat := 202
theorem D.q202 : T.prog.funcs[F.q202]? = some Tryz.f202 := Tryz.func202
abbrev F.q203 : Nat := 203
theorem D.q203 : T.prog.funcs[F.q203]? = some Tryz.f203 := Tryz.func203
abbrev F.q204 : Nat := 204
theorem D.q204 : T.prog.funcs[F.q204]? = some Tryz.f204 := Tryz.func204
abbrev F.q205 : Nat := 205
theorem D.q205 : T.prog.funcs[F.q205]? = some Tryz.f205 := Tryz.func205
abbrev F.q206 : Nat := 206
theorem D.q206 : T.prog.funcs[F.q206]? = some Tryz.f206 := Tryz.func206
abbrev F.q207 : Nat := 207
theorem D.q207 : T.prog.funcs[F.q207]? = some Tryz.f207 := Tryz.func207
abbrev F.q208 : Nat := 208
abbrev F.q209 : Nat := 209
theorem D.q209 : T.prog.funcs[F.q209]? = some Tryz.f209 := Tryz.func209
abbrev F.q210 : Nat := 210
theorem D.q210 : T.prog.funcs[F.q210]? = some Tryz.f210 := Tryz.func210
abbrev F.q211 : Nat := 211
theorem D.q211 : T.prog.funcs[F.q211]? = some Tryz.f211 := Tryz.func211
abbrev F.q212 : Nat := 212
theorem D.q212 : T.prog.funcs[F.q212]? = some Tryz.f212 := Tryz.func212
abbrev F.q213 : Nat := 213
theorem D.q213 : T.prog.funcs[F.q213]? = some Tryz.f213 := Tryz.func213
abbrev F.q214 : Nat := 214
theorem D.q214 : T.prog.funcs[F.q214]? = some Tryz.f214 := Tryz.func214
abbrev F.q215 : Nat := 215
theorem D.q215 : T.prog.funcs[F.q215]? = some Tryz.f215 := Tryz.func215
abbrev F.q224 : Nat := 224
theorem D.q224 : T.prog.funcs[F.q224]? = some Tryz.f224 := Tryz.func224
abbrev F.q225 : Nat := 225
theorem D.q225 : T.prog.funcs[F.q225]? = some Tryz.f225 := Tryz.func225
abbrev F.q226 : Nat := 226
theorem D.q226 : T.prog.funcs[F.q226]? = some Tryz.f226 := Tryz.func226
abbrev F.q227 : Nat := 227
theorem D.q227 : T.prog.funcs[F.q227]? = some Tryz.f227 := Tryz.func227
abbrev F.q228 : Nat := 228
theorem D.q228 : T.prog.funcs[F.q228]? = some Tryz.f228 := Tryz.func228
abbrev F.q229 : Nat := 229
theorem D.q229 : T.prog.funcs[F.q229]? = some Tryz.f229 := Tryz.func229
abbrev F.q230 : Nat := 230
theorem D.q230 : T.prog.funcs[F.q230]? = some Tryz.f230 := Tryz.func230
abbrev F.q231 : Nat := 231
theorem D.q231 : T.prog.funcs[F.q231]? = some Tryz.f231 := Tryz.func231
abbrev F.q232 : Nat := 232
theorem D.q232 : T.prog.funcs[F.q232]? = some Tryz.f232 := Tryz.func232
abbrev F.q233 : Nat := 233
theorem D.q233 : T.prog.funcs[F.q233]? = some Tryz.f233 := Tryz.func233
abbrev F.q239 : Nat := 239
theorem D.q239 : T.prog.funcs[F.q239]? = some Tryz.f239 := Tryz.func239
abbrev F.q240 : Nat := 240
theorem D.q240 : T.prog.funcs[F.q240]? = some Tryz.f240 := Tryz.func240
abbrev F.q241 : Nat := 241
theorem D.q241 : T.prog.funcs[F.q241]? = some Tryz.f241 := Tryz.func241
abbrev F.q247 : Nat := 247
theorem D.q247 : T.prog.funcs[F.q247]? = some Tryz.f247 := Tryz.func247
abbrev F.q249 : Nat := 249
theorem D.q249 : T.prog.funcs[F.q249]? = some Tryz.f249 := Tryz.func249
abbrev F.q250 : Nat := 250
theorem D.q250 : T.prog.funcs[F.q250]? = some Tryz.f250 := Tryz.func250
abbrev F.q251 : Nat := 251
theorem D.q251 : T.prog.funcs[F.q251]? = some Tryz.f251 := Tryz.func251
abbrev F.q252 : Nat := 252
theorem D.q252 : T.prog.funcs[F.q252]? = some Tryz.f252 := Tryz.func252
abbrev F.q253 : Nat := 253
theorem D.q253 : T.prog.funcs[F.q253]? = some Tryz.f253 := Tryz.func253
abbrev F.q256 : Nat := 256
theorem D.q256 : T.prog.funcs[F.q256]? = some Tryz.f256 := Tryz.func256
abbrev F.q257 : Nat := 257
theorem D.q257 : T.prog.funcs[F.q257]? = some Tryz.f257 := Tryz.func257
abbrev F.q258 : Nat := 258
theorem D.q258 : T.prog.funcs[F.q258]? = some Tryz.f258 := Tryz.func258
abbrev F.q261 : Nat := 261
theorem D.q261 : T.prog.funcs[F.q261]? = some Tryz.f261 := Tryz.func261
abbrev F.q262 : Nat := 262
theorem D.q262 : T.prog.funcs[F.q262]? = some Tryz.f262 := Tryz.func262
abbrev F.q267 : Nat := 267
theorem D.q267 : T.prog.funcs[F.q267]? = some Tryz.f267 := Tryz.func267
abbrev F.q268 : Nat := 268
theorem D.q268 : T.prog.funcs[F.q268]? = some Tryz.f268 := Tryz.func268
abbrev F.q269 : Nat := 269
theorem D.q269 : T.prog.funcs[F.q269]? = some Tryz.f269 := Tryz.func269
abbrev F.q270 : Nat := 270
theorem D.q270 : T.prog.funcs[F.q270]? = some Tryz.f270 := Tryz.func270
abbrev F.q271 : Nat := 271
abbrev F.q272 : Nat := 272
abbrev F.q273 : Nat := 273
theorem D.q273 : T.prog.funcs[F.q273]? = some Tryz.f273 := Tryz.func273
abbrev F.q274 : Nat := 274
theorem D.q274 : T.prog.funcs[F.q274]? = some Tryz.f274 := Tryz.func274
abbrev F.q275 : Nat := 275
theorem D.q275 : T.prog.funcs[F.q275]? = some Tryz.f275 := Tryz.func275
abbrev F.q276 : Nat := 276
theorem D.q276 : T.prog.funcs[F.q276]? = some Tryz.f276 := Tryz.func276
abbrev F.q277 : Nat := 277
theorem D.q277 : T.prog.funcs[F.q277]? = some Tryz.f277 := Tryz.func277
abbrev F.q278 : Nat := 278
theorem D.q278 : T.prog.funcs[F.q278]? = some Tryz.f278 := Tryz.func278
abbrev F.q279 : Nat := 279
theorem D.q279 : T.prog.funcs[F.q279]? = some Tryz.f279 := Tryz.func279
abbrev F.q282 : Nat := 282
theorem D.q282 : T.prog.funcs[F.q282]? = some Tryz.f282 := Tryz.func282
abbrev F.q285 : Nat := 285
theorem D.q285 : T.prog.funcs[F.q285]? = some Tryz.f285 := Tryz.func285
abbrev F.q286 : Nat := 286
theorem D.q286 : T.prog.funcs[F.q286]? = some Tryz.f286 := Tryz.func286
abbrev F.q287 : Nat := 287
theorem D.q287 : T.prog.funcs[F.q287]? = some Tryz.f287 := Tryz.func287
abbrev F.q292 : Nat := 292
theorem D.q292 : T.prog.funcs[F.q292]? = some Tryz.f292 := Tryz.func292
abbrev F.q295 : Nat := 295
theorem D.q295 : T.prog.funcs[F.q295]? = some Tryz.f295 := Tryz.func295
abbrev F.q296 : Nat := 296
theorem D.q296 : T.prog.funcs[F.q296]? = some Tryz.f296 := Tryz.func296
abbrev F.q297 : Nat := 297
theorem D.q297 : T.prog.funcs[F.q297]? = some Tryz.f297 := Tryz.func297
abbrev F.q298 : Nat := 298
theorem D.q298 : T.prog.funcs[F.q298]? = some Tryz.f298 := Tryz.func298
abbrev F.q299 : Nat := 299
theorem D.q299 : T.prog.funcs[F.q299]? = some Tryz.f299 := Tryz.func299
abbrev F.q300 : Nat := 300
theorem D.q300 : T.prog.funcs[F.q300]? = some Tryz.f300 := Tryz.func300
abbrev F.q301 : Nat := 301
abbrev F.q302 : Nat := 302
abbrev F.q303 : Nat := 303
theorem D.q303 : T.prog.funcs[F.q303]? = some Tryz.f303 := Tryz.func303
abbrev F.q309 : Nat := 309
theorem D.q309 : T.prog.funcs[F.q309]? = some Tryz.f309 := Tryz.func309
abbrev F.q311 : Nat := 311
theorem D.q311 : T.prog.funcs[F.q311]? = some Tryz.f311 := Tryz.func311
abbrev F.q315 : Nat := 315
theorem D.q315 : T.prog.funcs[F.q315]? = some Tryz.f315 := Tryz.func315
abbrev F.q317 : Nat := 317
abbrev F.q318 : Nat := 318
theorem D.q318 : T.prog.funcs[F.q318]? = some Tryz.f318 := Tryz.func318
abbrev F.q321 : Nat := 321
theorem D.q321 : T.prog.funcs[F.q321]? = some Tryz.f321 := Tryz.func321
abbrev F.q322 : Nat := 322
abbrev F.q329 : Nat := 329
theorem D.q329 : T.prog.funcs[F.q329]? = some Tryz.f329 := Tryz.func329
abbrev F.q330 : Nat := 330
theorem D.q330 : T.prog.funcs[F.q330]? = some Tryz.f330 := Tryz.func330
abbrev F.q331 : Nat := 331
theorem D.q331 : T.prog.funcs[F.q331]? = some Tryz.f331 := Tryz.func331
abbrev F.q332 : Nat := 332
theorem D.q332 : T.prog.funcs[F.q332]? = some Tryz.f332 := Tryz.func332
abbrev F.q333 : Nat := 333
theorem D.q333 : T.prog.funcs[F.q333]? = some Tryz.f333 := Tryz.func333
abbrev F.q334 : Nat := 334
theorem D.q334 : T.prog.funcs[F.q334]? = some Tryz.f334 := Tryz.func334
abbrev F.q337 : Nat := 337
theorem D.q337 : T.prog.funcs[F.q337]? = some Tryz.f337 := Tryz.func337
abbrev F.q339 : Nat := 339
theorem D.q339 : T.prog.funcs[F.q339]? = some Tryz.f339 := Tryz.func339
abbrev F.q341 : Nat := 341
abbrev F.q342 : Nat := 342
abbrev F.q343 : Nat := 343
abbrev F.q344 : Nat := 344
abbrev F.q349 : Nat := 349
theorem D.q349 : T.prog.funcs[F.q349]? = some Tryz.f349 := Tryz.func349
abbrev F.q350 : Nat := 350
theorem D.q350 : T.prog.funcs[F.q350]? = some Tryz.f350 := Tryz.func350
abbrev F.q351 : Nat := 351
theorem D.q351 : T.prog.funcs[F.q351]? = some Tryz.f351 := Tryz.func351
abbrev F.q360 : Nat := 360
abbrev F.q363 : Nat := 363
theorem D.q363 : T.prog.funcs[F.q363]? = some Tryz.f363 := Tryz.func363
abbrev F.q364 : Nat := 364
abbrev F.q365 : Nat := 365
abbrev F.q366 : Nat := 366
abbrev F.q367 : Nat := 367
abbrev F.q368 : Nat := 368
theorem D.q368 : T.prog.funcs[F.q368]? = some Tryz.f368 := Tryz.func368
abbrev F.q375 : Nat := 375
abbrev F.q376 : Nat := 376
theorem D.q376 : T.prog.funcs[F.q376]? = some Tryz.f376 := Tryz.func376
abbrev Ty.int64 : Nat := 2
abbrev Ty.int : Nat := 3
abbrev Ty.bool : Nat := 4
abbrev Ty.uint8 : Nat := 5
abbrev Ty.int32 : Nat := 21
abbrev Ty.api_Rat : Nat := 24
abbrev Ty.api_Expr : Nat := 27
abbrev Ty.api_Errno : Nat := 28
abbrev Ty.ref01_Nat : Nat := 42
abbrev Ty.ref01_Q : Nat := 44
abbrev Ty.api_Value : Nat := 63
abbrev Ty.api_Term : Nat := 74
abbrev Ty.api_Factor : Nat := 79
abbrev Ty.expr_poly : Nat := 91
abbrev Ty.word_Nat : Nat := 94
abbrev Ty.word_Frac : Nat := 96
abbrev Ty.expr_term : Nat := 98
abbrev Ty.uint64 : Nat := 107
abbrev Ty.api_Bind : Nat := 115
abbrev Ty.ref04_term : Nat := 131
abbrev Ty.syntax_Fault : Nat := 139
abbrev Ty.expr_failure : Nat := 150
abbrev Ty.uint32 : Nat := 153
abbrev Ty.syntax_Token : Nat := 191
abbrev Ty.syntax_Parser : Nat := 198
abbrev Ty.syntax_count : Nat := 205
abbrev Ty.expr_operand : Nat := 228
abbrev Ty.ref04_Token : Nat := 238
abbrev Ty.ref04_Reader : Nat := 242
abbrev Ty.ref04_Use : Nat := 289
abbrev Gl.math_bits_deBruijn32tab : Nat := 0
abbrev Gl.internal_bytealg_MaxLen : Nat := 1
abbrev Gl.unicode_utf8_first : Nat := 2
abbrev Gl.unicode_utf8_acceptRanges : Nat := 3
abbrev Gl.internal_strconv_uint64pow10 : Nat := 4
abbrev Gl.math_bits_deBruijn64tab : Nat := 5
end Go.Proofs.Y