/- The tables of this seat's translation as the engine wants them: the types' shapes and zero values, the functions' numbers by name. Printed by program; every row is checked by Lean. -/
import Derived.Test.YtmblpmegfmgjgaaGreatDoorProg
import Derived.Test.YtmblpmegfmgjgaaGreatDoorVcRule
import Derived.KernelRfl
set_option linter.unusedVariables false
set_option linter.unusedSimpArgs false
set_option maxRecDepth 100000
namespace Go.Proofs.YtmblpmegfmgjgaaGreatDoor
open Go Go.Vc
inductive BT (α : Type) where
  | leaf
  | node (l : BT α) (k : Nat) (x : α) (r : BT α)
def look {α : Type} : BT α → Nat → Option α
  | .leaf, _ => none
  | .node l k x r, t => match Nat.beq t k with
    | true => some x
    | false => match Nat.blt t k with
      | true => look l t
      | false => look r t
def BT.toL {α : Type} : BT α → List (Nat × α)
  | .leaf => []
  | .node l k x r => l.toL ++ (k, x) :: r.toL
theorem look_mem {α : Type} : ∀ {b : BT α} {t : Nat} {x : α}, look b t = some x → (t, x) ∈ b.toL
  | .leaf, _, _, h => by simp [look] at h
  | .node l k y r, t, x, h => by
    simp only [look] at h
    split at h
    · rename_i e
      obtain rfl := Nat.eq_of_beq_eq_true e
      cases h; simp [BT.toL]
    · split at h
      · exact List.mem_append_left _ (look_mem h)
      · exact List.mem_append_right _ (List.mem_cons_of_mem _ (look_mem h))
def undB : BT TypeDesc := (.node (.node (.node (.node (.node (.node .leaf 1 (.func #[] #[] false) .leaf) 2 (.int .i64) .leaf) 3 (.int .i64) (.node (.node .leaf 4 (.bool) .leaf) 5 (.int .u8) .leaf)) 9 (.string) (.node (.node (.node .leaf 22 (.slice 88) .leaf) 24 (.struct #[⟨"Neg", 4, 0, false, "", "", 0⟩, ⟨"Num", 22, 1, false, "", "", 8⟩, ⟨"Den", 22, 2, false, "", "", 32⟩]) .leaf) 25 (.slice 27) (.node (.node .leaf 27 (.struct #[⟨"Op", 3, 0, false, "", "", 0⟩, ⟨"Arg", 3, 1, false, "", "", 8⟩, ⟨"Num", 24, 2, false, "", "", 16⟩, ⟨"Name", 9, 5, false, "", "", 72⟩, ⟨"Kids", 25, 6, false, "", "", 88⟩]) .leaf) 28 (.int .i64) .leaf))) 32 (.func #[] #[4] false) (.node (.node (.node (.node .leaf 44 (.slice 88) .leaf) 46 (.struct #[⟨"Neg", 4, 0, false, "", "", 0⟩, ⟨"N", 44, 1, false, "", "", 8⟩, ⟨"D", 44, 2, false, "", "", 32⟩]) .leaf) 64 (.slice 9) (.node (.node .leaf 88 (.int .u32) .leaf) 89 (.slice 88) .leaf)) 91 (.struct #[⟨"Neg", 4, 0, false, "", "", 0⟩, ⟨"Num", 89, 1, false, "", "", 8⟩, ⟨"Den", 89, 2, false, "", "", 32⟩]) (.node (.node (.node .leaf 100 (.int .u64) .leaf) 121 (.slice 177) .leaf) 124 (.pointer 184) (.node (.node .leaf 127 (.struct #[⟨"Err", 28, 0, false, "", "", 0⟩, ⟨"At", 3, 1, false, "", "", 8⟩]) .leaf) 131 (.slice 137) .leaf)))) 134 (.pointer 141) (.node (.node (.node (.node (.node .leaf 137 (.struct #[⟨"Kind", 3, 0, false, "", "", 0⟩, ⟨"At", 3, 1, false, "", "", 8⟩, ⟨"Text", 9, 2, false, "", "", 16⟩]) .leaf) 139 (.slice 195) .leaf) 141 (.struct #[⟨"L", 131, 0, false, "", "", 0⟩, ⟨"I", 3, 1, false, "", "", 24⟩, ⟨"End", 3, 2, false, "", "", 32⟩, ⟨"Bad", 3, 3, false, "", "", 40⟩, ⟨"Uses", 139, 4, false, "", "", 48⟩]) (.node (.node .leaf 146 (.func #[91] #[91] false) .leaf) 177 (.struct #[⟨"Kind", 3, 0, false, "", "", 0⟩, ⟨"Text", 9, 1, false, "", "", 8⟩, ⟨"At", 3, 2, false, "", "", 24⟩]) .leaf)) 182 (.slice 191) (.node (.node (.node .leaf 184 (.struct #[⟨"tokens", 121, 0, false, "", "inequality/syntax", 0⟩, ⟨"next", 3, 1, false, "", "inequality/syntax", 24⟩, ⟨"end", 3, 2, false, "", "inequality/syntax", 32⟩, ⟨"counts", 182, 3, false, "", "inequality/syntax", 40⟩]) .leaf) 185 (.slice 127) .leaf) 191 (.struct #[⟨"at", 3, 0, false, "", "inequality/syntax", 0⟩, ⟨"low", 3, 1, false, "", "inequality/syntax", 8⟩, ⟨"high", 3, 2, false, "", "inequality/syntax", 16⟩, ⟨"n", 3, 3, false, "", "inequality/syntax", 24⟩]) (.node (.node .leaf 195 (.struct #[⟨"T", 137, 0, false, "", "", 0⟩, ⟨"Root", 4, 3, false, "", "", 32⟩]) .leaf) 196 (.pointer 199) .leaf))) 197 (.slice 5) (.node (.node (.node (.node .leaf 199 (.struct #[⟨"addr", 196, 0, false, "", "strings", 0⟩, ⟨"buf", 197, 1, false, "", "strings", 8⟩]) .leaf) 225 (.int .u64) .leaf) 243 (.array 256 4) (.node (.node .leaf 247 (.pointer 243) .leaf) 260 (.pointer 5) .leaf)) 291 (.map 3 9) (.node (.node (.node .leaf 293 (.array 32 5) .leaf) 323 (.array 24 5) .leaf) 327 (.array 20 100) (.node (.node .leaf 328 (.array 65 5) .leaf) 329 (.array 64 5) .leaf)))))
def infB : BT (List Value × Nat) := (.node (.node (.node (.node (.node (.node .leaf 1 ([.nilFunc], 8) .leaf) 2 ([.int .i64 0], 8) .leaf) 3 ([.int .i64 0], 8) (.node (.node .leaf 4 ([.bool false], 1) .leaf) 5 ([.int .u8 0], 1) .leaf)) 9 ([.string ByteArray.empty], 16) (.node (.node (.node .leaf 22 ([.slice none 0 0], 24) .leaf) 24 ([.bool false, .slice none 0 0, .slice none 0 0], 56) .leaf) 25 ([.slice none 0 0], 24) (.node (.node .leaf 27 ([.int .i64 0, .int .i64 0, .bool false, .slice none 0 0, .slice none 0 0, .string ByteArray.empty, .slice none 0 0], 112) .leaf) 28 ([.int .i64 0], 8) .leaf))) 32 ([.nilFunc], 8) (.node (.node (.node (.node .leaf 44 ([.slice none 0 0], 24) .leaf) 46 ([.bool false, .slice none 0 0, .slice none 0 0], 56) .leaf) 64 ([.slice none 0 0], 24) (.node (.node .leaf 88 ([.int .u32 0], 4) .leaf) 89 ([.slice none 0 0], 24) .leaf)) 91 ([.bool false, .slice none 0 0, .slice none 0 0], 56) (.node (.node (.node .leaf 100 ([.int .u64 0], 8) .leaf) 121 ([.slice none 0 0], 24) .leaf) 124 ([.pointer none], 8) (.node (.node .leaf 127 ([.int .i64 0, .int .i64 0], 16) .leaf) 131 ([.slice none 0 0], 24) .leaf)))) 134 ([.pointer none], 8) (.node (.node (.node (.node (.node .leaf 137 ([.int .i64 0, .int .i64 0, .string ByteArray.empty], 32) .leaf) 139 ([.slice none 0 0], 24) .leaf) 141 ([.slice none 0 0, .int .i64 0, .int .i64 0, .int .i64 0, .slice none 0 0], 72) (.node (.node .leaf 146 ([.nilFunc], 8) .leaf) 177 ([.int .i64 0, .string ByteArray.empty, .int .i64 0], 32) .leaf)) 182 ([.slice none 0 0], 24) (.node (.node (.node .leaf 184 ([.slice none 0 0, .int .i64 0, .int .i64 0, .slice none 0 0], 64) .leaf) 185 ([.slice none 0 0], 24) .leaf) 191 ([.int .i64 0, .int .i64 0, .int .i64 0, .int .i64 0], 32) (.node (.node .leaf 195 ([.int .i64 0, .int .i64 0, .string ByteArray.empty, .bool false], 40) .leaf) 196 ([.pointer none], 8) .leaf))) 197 ([.slice none 0 0], 24) (.node (.node (.node (.node .leaf 199 ([.pointer none, .slice none 0 0], 32) .leaf) 225 ([.int .u64 0], 8) .leaf) 247 ([.pointer none], 8) (.node (.node .leaf 260 ([.pointer none], 8) .leaf) 291 ([.map none], 8) .leaf)) 293 ([.int .u8 0, .int .u8 0, .int .u8 0, .int .u8 0, .int .u8 0, .int .u8 0, .int .u8 0, .int .u8 0, .int .u8 0, .int .u8 0, .int .u8 0, .int .u8 0, .int .u8 0, .int .u8 0, .int .u8 0, .int .u8 0, .int .u8 0, .int .u8 0, .int .u8 0, .int .u8 0, .int .u8 0, .int .u8 0, .int .u8 0, .int .u8 0, .int .u8 0, .int .u8 0, .int .u8 0, .int .u8 0, .int .u8 0, .int .u8 0, .int .u8 0, .int .u8 0], 32) (.node (.node (.node .leaf 309 ([.pointer none], 8) .leaf) 323 ([.int .u8 0, .int .u8 0, .int .u8 0, .int .u8 0, .int .u8 0, .int .u8 0, .int .u8 0, .int .u8 0, .int .u8 0, .int .u8 0, .int .u8 0, .int .u8 0, .int .u8 0, .int .u8 0, .int .u8 0, .int .u8 0, .int .u8 0, .int .u8 0, .int .u8 0, .int .u8 0, .int .u8 0, .int .u8 0, .int .u8 0, .int .u8 0], 24) .leaf) 327 ([.int .u64 0, .int .u64 0, .int .u64 0, .int .u64 0, .int .u64 0, .int .u64 0, .int .u64 0, .int .u64 0, .int .u64 0, .int .u64 0, .int .u64 0, .int .u64 0, .int .u64 0, .int .u64 0, .int .u64 0, .int .u64 0, .int .u64 0, .int .u64 0, .int .u64 0, .int .u64 0], 160) (.node .leaf 329 ([.int .u8 0, .int .u8 0, .int .u8 0, .int .u8 0, .int .u8 0, .int .u8 0, .int .u8 0, .int .u8 0, .int .u8 0, .int .u8 0, .int .u8 0, .int .u8 0, .int .u8 0, .int .u8 0, .int .u8 0, .int .u8 0, .int .u8 0, .int .u8 0, .int .u8 0, .int .u8 0, .int .u8 0, .int .u8 0, .int .u8 0, .int .u8 0, .int .u8 0, .int .u8 0, .int .u8 0, .int .u8 0, .int .u8 0, .int .u8 0, .int .u8 0, .int .u8 0, .int .u8 0, .int .u8 0, .int .u8 0, .int .u8 0, .int .u8 0, .int .u8 0, .int .u8 0, .int .u8 0, .int .u8 0, .int .u8 0, .int .u8 0, .int .u8 0, .int .u8 0, .int .u8 0, .int .u8 0, .int .u8 0, .int .u8 0, .int .u8 0, .int .u8 0, .int .u8 0, .int .u8 0, .int .u8 0, .int .u8 0, .int .u8 0, .int .u8 0, .int .u8 0, .int .u8 0, .int .u8 0, .int .u8 0, .int .u8 0, .int .u8 0, .int .u8 0], 64) .leaf)))))
def fnB : BT Unit := (.node (.node (.node (.node (.node (.node (.node (.node .leaf 14 () .leaf) 15 () (.node .leaf 16 () .leaf)) 19 () (.node (.node .leaf 20 () .leaf) 23 () .leaf)) 24 () (.node (.node (.node .leaf 27 () .leaf) 31 () .leaf) 32 () (.node (.node .leaf 36 () .leaf) 39 () .leaf))) 48 () (.node (.node (.node (.node .leaf 50 () .leaf) 51 () .leaf) 52 () (.node (.node .leaf 53 () .leaf) 54 () .leaf)) 55 () (.node (.node (.node .leaf 56 () .leaf) 59 () .leaf) 60 () (.node (.node .leaf 61 () .leaf) 65 () .leaf)))) 66 () (.node (.node (.node (.node (.node .leaf 68 () .leaf) 71 () .leaf) 73 () (.node (.node .leaf 76 () .leaf) 77 () .leaf)) 78 () (.node (.node (.node .leaf 79 () .leaf) 83 () .leaf) 84 () (.node (.node .leaf 85 () .leaf) 89 () .leaf))) 95 () (.node (.node (.node (.node .leaf 96 () .leaf) 97 () .leaf) 98 () (.node (.node .leaf 99 () .leaf) 100 () .leaf)) 101 () (.node (.node (.node .leaf 102 () .leaf) 103 () .leaf) 104 () (.node (.node .leaf 105 () .leaf) 106 () .leaf))))) 107 () (.node (.node (.node (.node (.node (.node .leaf 108 () .leaf) 109 () .leaf) 110 () (.node (.node .leaf 119 () .leaf) 120 () .leaf)) 121 () (.node (.node (.node .leaf 126 () .leaf) 127 () .leaf) 128 () (.node (.node .leaf 129 () .leaf) 130 () .leaf))) 131 () (.node (.node (.node (.node .leaf 132 () .leaf) 133 () .leaf) 134 () (.node (.node .leaf 136 () .leaf) 138 () .leaf)) 143 () (.node (.node (.node .leaf 144 () .leaf) 145 () .leaf) 147 () (.node (.node .leaf 149 () .leaf) 150 () .leaf)))) 151 () (.node (.node (.node (.node (.node .leaf 152 () .leaf) 154 () .leaf) 155 () (.node (.node .leaf 156 () .leaf) 157 () .leaf)) 158 () (.node (.node (.node .leaf 159 () .leaf) 160 () .leaf) 167 () (.node (.node .leaf 168 () .leaf) 169 () .leaf))) 170 () (.node (.node (.node (.node .leaf 171 () .leaf) 172 () .leaf) 173 () (.node (.node .leaf 174 () .leaf) 175 () .leaf)) 176 () (.node (.node (.node .leaf 177 () .leaf) 178 () .leaf) 179 () (.node (.node .leaf 180 () .leaf) 181 () .leaf)))))) 182 () (.node (.node (.node (.node (.node (.node (.node .leaf 183 () .leaf) 184 () (.node .leaf 185 () .leaf)) 186 () (.node (.node .leaf 187 () .leaf) 188 () .leaf)) 189 () (.node (.node (.node .leaf 190 () .leaf) 191 () .leaf) 192 () (.node (.node .leaf 193 () .leaf) 194 () .leaf))) 197 () (.node (.node (.node (.node .leaf 223 () .leaf) 224 () .leaf) 225 () (.node (.node .leaf 226 () .leaf) 227 () .leaf)) 228 () (.node (.node (.node .leaf 229 () .leaf) 231 () .leaf) 232 () (.node (.node .leaf 233 () .leaf) 234 () .leaf)))) 235 () (.node (.node (.node (.node (.node .leaf 236 () .leaf) 237 () .leaf) 238 () (.node (.node .leaf 242 () .leaf) 243 () .leaf)) 244 () (.node (.node (.node .leaf 245 () .leaf) 246 () .leaf) 247 () (.node (.node .leaf 248 () .leaf) 249 () .leaf))) 250 () (.node (.node (.node (.node .leaf 251 () .leaf) 257 () .leaf) 258 () (.node (.node .leaf 259 () .leaf) 260 () .leaf)) 261 () (.node (.node (.node .leaf 262 () .leaf) 263 () .leaf) 264 () (.node (.node .leaf 265 () .leaf) 266 () .leaf))))) 267 () (.node (.node (.node (.node (.node (.node .leaf 268 () .leaf) 269 () .leaf) 270 () (.node (.node .leaf 271 () .leaf) 272 () .leaf)) 273 () (.node (.node (.node .leaf 274 () .leaf) 289 () .leaf) 290 () (.node (.node .leaf 291 () .leaf) 292 () .leaf))) 293 () (.node (.node (.node (.node .leaf 294 () .leaf) 295 () .leaf) 296 () (.node (.node .leaf 306 () .leaf) 307 () .leaf)) 308 () (.node (.node (.node .leaf 309 () .leaf) 314 () .leaf) 315 () (.node (.node .leaf 316 () .leaf) 317 () .leaf)))) 318 () (.node (.node (.node (.node (.node .leaf 319 () .leaf) 320 () .leaf) 321 () (.node (.node .leaf 322 () .leaf) 333 () .leaf)) 334 () (.node (.node (.node .leaf 335 () .leaf) 336 () .leaf) 337 () (.node (.node .leaf 344 () .leaf) 345 () .leaf))) 346 () (.node (.node (.node (.node .leaf 348 () .leaf) 355 () .leaf) 356 () (.node (.node .leaf 357 () .leaf) 358 () .leaf)) 359 () (.node (.node (.node .leaf 360 () .leaf) 361 () .leaf) 362 () (.node (.node .leaf 363 () .leaf) 364 () .leaf)))))))
def BT.All {α : Type} (p : Nat × α → Prop) : BT α → Prop
  | .leaf => True
  | .node l k x r => l.All p ∧ p (k, x) ∧ r.All p
theorem lf {α : Type} {p : Nat × α → Prop} : BT.All p .leaf := trivial
theorem nd {α : Type} {p : Nat × α → Prop} {l r : BT α} {k : Nat} {x : α} (a : l.All p) (b : p (k, x)) (c : r.All p) : BT.All p (.node l k x r) := ⟨a, b, c⟩
theorem BT.all_mem {α : Type} {p : Nat × α → Prop} {y : Nat × α} : ∀ {b : BT α}, b.All p → y ∈ b.toL → p y
  | .leaf, _, h => by cases h
  | .node l k x r, ⟨h1, h2, h3⟩, h => by
    rw [BT.toL] at h
    rcases List.mem_append.1 h with h | h
    · exact BT.all_mem h1 h
    · rcases List.mem_cons.1 h with rfl | h
      · exact h2
      · exact BT.all_mem h3 h
noncomputable def T : Tab := { prog := Tryz.prog, und := look undB, inf := look infB, fn := fun f => (look fnB f).isSome, room := False }
theorem undOk : undB.All fun x => Tryz.prog.underlying x.1 = some x.2 := (nd (nd (nd (nd (nd (nd lf Tryz.underlying1 lf) Tryz.underlying2 lf) Tryz.underlying3 (nd (nd lf Tryz.underlying4 lf) Tryz.underlying5 lf)) Tryz.underlying9 (nd (nd (nd lf Tryz.underlying22 lf) Tryz.underlying24 lf) Tryz.underlying25 (nd (nd lf Tryz.underlying27 lf) Tryz.underlying28 lf))) Tryz.underlying32 (nd (nd (nd (nd lf Tryz.underlying44 lf) Tryz.underlying46 lf) Tryz.underlying64 (nd (nd lf Tryz.underlying88 lf) Tryz.underlying89 lf)) Tryz.underlying91 (nd (nd (nd lf Tryz.underlying100 lf) Tryz.underlying121 lf) Tryz.underlying124 (nd (nd lf Tryz.underlying127 lf) Tryz.underlying131 lf)))) Tryz.underlying134 (nd (nd (nd (nd (nd lf Tryz.underlying137 lf) Tryz.underlying139 lf) Tryz.underlying141 (nd (nd lf Tryz.underlying146 lf) Tryz.underlying177 lf)) Tryz.underlying182 (nd (nd (nd lf Tryz.underlying184 lf) Tryz.underlying185 lf) Tryz.underlying191 (nd (nd lf Tryz.underlying195 lf) Tryz.underlying196 lf))) Tryz.underlying197 (nd (nd (nd (nd lf Tryz.underlying199 lf) Tryz.underlying225 lf) Tryz.underlying243 (nd (nd lf Tryz.underlying247 lf) Tryz.underlying260 lf)) Tryz.underlying291 (nd (nd (nd lf Tryz.underlying293 lf) Tryz.underlying323 lf) Tryz.underlying327 (nd (nd lf Tryz.underlying328 lf) Tryz.underlying329 lf)))))
theorem infOk : infB.All fun x => ∃ i v, Tryz.prog.info? x.1 = some i ∧ i.zero = some v ∧ v.cells = x.2.1.toArray ∧ i.size = x.2.1.length ∧ i.bytes = x.2.2 := (nd (nd (nd (nd (nd (nd lf ⟨Tryz.t1, _, by kernel_rfl, rfl, rfl, rfl, rfl⟩ lf) ⟨Tryz.t2, _, by kernel_rfl, rfl, rfl, rfl, rfl⟩ lf) ⟨Tryz.t3, _, by kernel_rfl, rfl, rfl, rfl, rfl⟩ (nd (nd lf ⟨Tryz.t4, _, by kernel_rfl, rfl, rfl, rfl, rfl⟩ lf) ⟨Tryz.t5, _, by kernel_rfl, rfl, rfl, rfl, rfl⟩ lf)) ⟨Tryz.t9, _, by kernel_rfl, rfl, rfl, rfl, rfl⟩ (nd (nd (nd lf ⟨Tryz.t22, _, by kernel_rfl, rfl, rfl, rfl, rfl⟩ lf) ⟨Tryz.t24, _, by kernel_rfl, rfl, rfl, rfl, rfl⟩ lf) ⟨Tryz.t25, _, by kernel_rfl, rfl, rfl, rfl, rfl⟩ (nd (nd lf ⟨Tryz.t27, _, by kernel_rfl, rfl, rfl, rfl, rfl⟩ lf) ⟨Tryz.t28, _, by kernel_rfl, rfl, rfl, rfl, rfl⟩ lf))) ⟨Tryz.t32, _, by kernel_rfl, rfl, rfl, rfl, rfl⟩ (nd (nd (nd (nd lf ⟨Tryz.t44, _, by kernel_rfl, rfl, rfl, rfl, rfl⟩ lf) ⟨Tryz.t46, _, by kernel_rfl, rfl, rfl, rfl, rfl⟩ lf) ⟨Tryz.t64, _, by kernel_rfl, rfl, rfl, rfl, rfl⟩ (nd (nd lf ⟨Tryz.t88, _, by kernel_rfl, rfl, rfl, rfl, rfl⟩ lf) ⟨Tryz.t89, _, by kernel_rfl, rfl, rfl, rfl, rfl⟩ lf)) ⟨Tryz.t91, _, by kernel_rfl, rfl, rfl, rfl, rfl⟩ (nd (nd (nd lf ⟨Tryz.t100, _, by kernel_rfl, rfl, rfl, rfl, rfl⟩ lf) ⟨Tryz.t121, _, by kernel_rfl, rfl, rfl, rfl, rfl⟩ lf) ⟨Tryz.t124, _, by kernel_rfl, rfl, rfl, rfl, rfl⟩ (nd (nd lf ⟨Tryz.t127, _, by kernel_rfl, rfl, rfl, rfl, rfl⟩ lf) ⟨Tryz.t131, _, by kernel_rfl, rfl, rfl, rfl, rfl⟩ lf)))) ⟨Tryz.t134, _, by kernel_rfl, rfl, rfl, rfl, rfl⟩ (nd (nd (nd (nd (nd lf ⟨Tryz.t137, _, by kernel_rfl, rfl, rfl, rfl, rfl⟩ lf) ⟨Tryz.t139, _, by kernel_rfl, rfl, rfl, rfl, rfl⟩ lf) ⟨Tryz.t141, _, by kernel_rfl, rfl, rfl, rfl, rfl⟩ (nd (nd lf ⟨Tryz.t146, _, by kernel_rfl, rfl, rfl, rfl, rfl⟩ lf) ⟨Tryz.t177, _, by kernel_rfl, rfl, rfl, rfl, rfl⟩ lf)) ⟨Tryz.t182, _, by kernel_rfl, rfl, rfl, rfl, rfl⟩ (nd (nd (nd lf ⟨Tryz.t184, _, by kernel_rfl, rfl, rfl, rfl, rfl⟩ lf) ⟨Tryz.t185, _, by kernel_rfl, rfl, rfl, rfl, rfl⟩ lf) ⟨Tryz.t191, _, by kernel_rfl, rfl, rfl, rfl, rfl⟩ (nd (nd lf ⟨Tryz.t195, _, by kernel_rfl, rfl, rfl, rfl, rfl⟩ lf) ⟨Tryz.t196, _, by kernel_rfl, rfl, rfl, rfl, rfl⟩ lf))) ⟨Tryz.t197, _, by kernel_rfl, rfl, rfl, rfl, rfl⟩ (nd (nd (nd (nd lf ⟨Tryz.t199, _, by kernel_rfl, rfl, rfl, rfl, rfl⟩ lf) ⟨Tryz.t225, _, by kernel_rfl, rfl, rfl, rfl, rfl⟩ lf) ⟨Tryz.t247, _, by kernel_rfl, rfl, rfl, rfl, rfl⟩ (nd (nd lf ⟨Tryz.t260, _, by kernel_rfl, rfl, rfl, rfl, rfl⟩ lf) ⟨Tryz.t291, _, by kernel_rfl, rfl, rfl, rfl, rfl⟩ lf)) ⟨Tryz.t293, _, by kernel_rfl, rfl, rfl, rfl, rfl⟩ (nd (nd (nd lf ⟨Tryz.t309, _, by kernel_rfl, rfl, rfl, rfl, rfl⟩ lf) ⟨Tryz.t323, _, by kernel_rfl, rfl, rfl, rfl, rfl⟩ lf) ⟨Tryz.t327, _, by kernel_rfl, rfl, rfl, rfl, rfl⟩ (nd lf ⟨Tryz.t329, _, by kernel_rfl, rfl, rfl, rfl, rfl⟩ lf)))))
theorem fnOk : fnB.All fun x => ∀ args w, (callFunc x.1 args).run Tryz.prog w = .ok (.enter x.1 args) w := (nd (nd (nd (nd (nd (nd (nd (nd lf Tryz.call14 lf) Tryz.call15 (nd lf Tryz.call16 lf)) Tryz.call19 (nd (nd lf Tryz.call20 lf) Tryz.call23 lf)) Tryz.call24 (nd (nd (nd lf Tryz.call27 lf) Tryz.call31 lf) Tryz.call32 (nd (nd lf Tryz.call36 lf) Tryz.call39 lf))) Tryz.call48 (nd (nd (nd (nd lf Tryz.call50 lf) Tryz.call51 lf) Tryz.call52 (nd (nd lf Tryz.call53 lf) Tryz.call54 lf)) Tryz.call55 (nd (nd (nd lf Tryz.call56 lf) Tryz.call59 lf) Tryz.call60 (nd (nd lf Tryz.call61 lf) Tryz.call65 lf)))) Tryz.call66 (nd (nd (nd (nd (nd lf Tryz.call68 lf) Tryz.call71 lf) Tryz.call73 (nd (nd lf Tryz.call76 lf) Tryz.call77 lf)) Tryz.call78 (nd (nd (nd lf Tryz.call79 lf) Tryz.call83 lf) Tryz.call84 (nd (nd lf Tryz.call85 lf) Tryz.call89 lf))) Tryz.call95 (nd (nd (nd (nd lf Tryz.call96 lf) Tryz.call97 lf) Tryz.call98 (nd (nd lf Tryz.call99 lf) Tryz.call100 lf)) Tryz.call101 (nd (nd (nd lf Tryz.call102 lf) Tryz.call103 lf) Tryz.call104 (nd (nd lf Tryz.call105 lf) Tryz.call106 lf))))) Tryz.call107 (nd (nd (nd (nd (nd (nd lf Tryz.call108 lf) Tryz.call109 lf) Tryz.call110 (nd (nd lf Tryz.call119 lf) Tryz.call120 lf)) Tryz.call121 (nd (nd (nd lf Tryz.call126 lf) Tryz.call127 lf) Tryz.call128 (nd (nd lf Tryz.call129 lf) Tryz.call130 lf))) Tryz.call131 (nd (nd (nd (nd lf Tryz.call132 lf) Tryz.call133 lf) Tryz.call134 (nd (nd lf Tryz.call136 lf) Tryz.call138 lf)) Tryz.call143 (nd (nd (nd lf Tryz.call144 lf) Tryz.call145 lf) Tryz.call147 (nd (nd lf Tryz.call149 lf) Tryz.call150 lf)))) Tryz.call151 (nd (nd (nd (nd (nd lf Tryz.call152 lf) Tryz.call154 lf) Tryz.call155 (nd (nd lf Tryz.call156 lf) Tryz.call157 lf)) Tryz.call158 (nd (nd (nd lf Tryz.call159 lf) Tryz.call160 lf) Tryz.call167 (nd (nd lf Tryz.call168 lf) Tryz.call169 lf))) Tryz.call170 (nd (nd (nd (nd lf Tryz.call171 lf) Tryz.call172 lf) Tryz.call173 (nd (nd lf Tryz.call174 lf) Tryz.call175 lf)) Tryz.call176 (nd (nd (nd lf Tryz.call177 lf) Tryz.call178 lf) Tryz.call179 (nd (nd lf Tryz.call180 lf) Tryz.call181 lf)))))) Tryz.call182 (nd (nd (nd (nd (nd (nd (nd lf Tryz.call183 lf) Tryz.call184 (nd lf Tryz.call185 lf)) Tryz.call186 (nd (nd lf Tryz.call187 lf) Tryz.call188 lf)) Tryz.call189 (nd (nd (nd lf Tryz.call190 lf) Tryz.call191 lf) Tryz.call192 (nd (nd lf Tryz.call193 lf) Tryz.call194 lf))) Tryz.call197 (nd (nd (nd (nd lf Tryz.call223 lf) Tryz.call224 lf) Tryz.call225 (nd (nd lf Tryz.call226 lf) Tryz.call227 lf)) Tryz.call228 (nd (nd (nd lf Tryz.call229 lf) Tryz.call231 lf) Tryz.call232 (nd (nd lf Tryz.call233 lf) Tryz.call234 lf)))) Tryz.call235 (nd (nd (nd (nd (nd lf Tryz.call236 lf) Tryz.call237 lf) Tryz.call238 (nd (nd lf Tryz.call242 lf) Tryz.call243 lf)) Tryz.call244 (nd (nd (nd lf Tryz.call245 lf) Tryz.call246 lf) Tryz.call247 (nd (nd lf Tryz.call248 lf) Tryz.call249 lf))) Tryz.call250 (nd (nd (nd (nd lf Tryz.call251 lf) Tryz.call257 lf) Tryz.call258 (nd (nd lf Tryz.call259 lf) Tryz.call260 lf)) Tryz.call261 (nd (nd (nd lf Tryz.call262 lf) Tryz.call263 lf) Tryz.call264 (nd (nd lf Tryz.call265 lf) Tryz.call266 lf))))) Tryz.call267 (nd (nd (nd (nd (nd (nd lf Tryz.call268 lf) Tryz.call269 lf) Tryz.call270 (nd (nd lf Tryz.call271 lf) Tryz.call272 lf)) Tryz.call273 (nd (nd (nd lf Tryz.call274 lf) Tryz.call289 lf) Tryz.call290 (nd (nd lf Tryz.call291 lf) Tryz.call292 lf))) Tryz.call293 (nd (nd (nd (nd lf Tryz.call294 lf) Tryz.call295 lf) Tryz.call296 (nd (nd lf Tryz.call306 lf) Tryz.call307 lf)) Tryz.call308 (nd (nd (nd lf Tryz.call309 lf) Tryz.call314 lf) Tryz.call315 (nd (nd lf Tryz.call316 lf) Tryz.call317 lf)))) Tryz.call318 (nd (nd (nd (nd (nd lf Tryz.call319 lf) Tryz.call320 lf) Tryz.call321 (nd (nd lf Tryz.call322 lf) Tryz.call333 lf)) Tryz.call334 (nd (nd (nd lf Tryz.call335 lf) Tryz.call336 lf) Tryz.call337 (nd (nd lf Tryz.call344 lf) Tryz.call345 lf))) Tryz.call346 (nd (nd (nd (nd lf Tryz.call348 lf) Tryz.call355 lf) Tryz.call356 (nd (nd lf Tryz.call357 lf) Tryz.call358 lf)) Tryz.call359 (nd (nd (nd lf Tryz.call360 lf) Tryz.call361 lf) Tryz.call362 (nd (nd lf Tryz.call363 lf) Tryz.call364 lf)))))))
theorem mixedOk : Tryz.prog.follows .mixedOrders = true := by kernel_rfl
theorem ok : T.Ok where
  und t d h := BT.all_mem (y := (t, d)) undOk (look_mem h)
  inf t z n h := BT.all_mem (y := (t, (z, n))) infOk (look_mem h)
  fn f h args w := by
    obtain ⟨x, hx⟩ := Option.isSome_iff_exists.1 (show (look fnB f).isSome = true from h)
    exact BT.all_mem fnOk (look_mem hx) args w
  mixed := mixedOk
abbrev F.law04_ExprParses : Nat := 14
theorem D.law04_ExprParses : T.prog.funcs[F.law04_ExprParses]? = some Tryz.f14 := Tryz.func14
abbrev F.law04_ExprPrints : Nat := 15
theorem D.law04_ExprPrints : T.prog.funcs[F.law04_ExprPrints]? = some Tryz.f15 := Tryz.func15
abbrev F.law04_ExprNormal : Nat := 16
theorem D.law04_ExprNormal : T.prog.funcs[F.law04_ExprNormal]? = some Tryz.f16 := Tryz.func16
abbrev F.law04_agrees : Nat := 19
theorem D.law04_agrees : T.prog.funcs[F.law04_agrees]? = some Tryz.f19 := Tryz.func19
abbrev F.law04_sane : Nat := 20
theorem D.law04_sane : T.prog.funcs[F.law04_sane]? = some Tryz.f20 := Tryz.func20
abbrev F.ref01_Canonical : Nat := 23
theorem D.ref01_Canonical : T.prog.funcs[F.ref01_Canonical]? = some Tryz.f23 := Tryz.func23
abbrev F.ref01_Same : Nat := 24
theorem D.ref01_Same : T.prog.funcs[F.ref01_Same]? = some Tryz.f24 := Tryz.func24
abbrev F.law04_canonical : Nat := 27
theorem D.law04_canonical : T.prog.funcs[F.law04_canonical]? = some Tryz.f27 := Tryz.func27
abbrev F.ref01_Sgn : Nat := 31
theorem D.ref01_Sgn : T.prog.funcs[F.ref01_Sgn]? = some Tryz.f31 := Tryz.func31
abbrev F.ref01_Of : Nat := 32
theorem D.ref01_Of : T.prog.funcs[F.ref01_Of]? = some Tryz.f32 := Tryz.func32
abbrev F.ref04_Valid : Nat := 36
theorem D.ref04_Valid : T.prog.funcs[F.ref04_Valid]? = some Tryz.f36 := Tryz.func36
abbrev F.ref01_Cmp : Nat := 39
theorem D.ref01_Cmp : T.prog.funcs[F.ref01_Cmp]? = some Tryz.f39 := Tryz.func39
abbrev F.expr_Valid : Nat := 48
theorem D.expr_Valid : T.prog.funcs[F.expr_Valid]? = some Tryz.f48 := Tryz.func48
abbrev F.expr_Parse : Nat := 50
theorem D.expr_Parse : T.prog.funcs[F.expr_Parse]? = some Tryz.f50 := Tryz.func50
abbrev F.ref04_Parse : Nat := 51
theorem D.ref04_Parse : T.prog.funcs[F.ref04_Parse]? = some Tryz.f51 := Tryz.func51
abbrev F.expr_Print : Nat := 52
theorem D.expr_Print : T.prog.funcs[F.expr_Print]? = some Tryz.f52 := Tryz.func52
abbrev F.ref04_Print : Nat := 53
theorem D.ref04_Print : T.prog.funcs[F.ref04_Print]? = some Tryz.f53 := Tryz.func53
abbrev F.law04_longest : Nat := 54
theorem D.law04_longest : T.prog.funcs[F.law04_longest]? = some Tryz.f54 := Tryz.func54
abbrev F.ref04_Same : Nat := 55
theorem D.ref04_Same : T.prog.funcs[F.ref04_Same]? = some Tryz.f55 := Tryz.func55
abbrev F.expr_clone : Nat := 56
theorem D.expr_clone : T.prog.funcs[F.expr_clone]? = some Tryz.f56 := Tryz.func56
abbrev F.law04_nothing : Nat := 59
theorem D.law04_nothing : T.prog.funcs[F.law04_nothing]? = some Tryz.f59 := Tryz.func59
abbrev F.expr_IsName : Nat := 60
theorem D.expr_IsName : T.prog.funcs[F.expr_IsName]? = some Tryz.f60 := Tryz.func60
abbrev F.number_Canon : Nat := 61
theorem D.number_Canon : T.prog.funcs[F.number_Canon]? = some Tryz.f61 := Tryz.func61
abbrev F.ref01_Rat : Nat := 65
theorem D.ref01_Rat : T.prog.funcs[F.ref01_Rat]? = some Tryz.f65 := Tryz.func65
abbrev F.word_Read : Nat := 66
theorem D.word_Read : T.prog.funcs[F.word_Read]? = some Tryz.f66 := Tryz.func66
abbrev F.ref01_Large : Nat := 68
theorem D.ref01_Large : T.prog.funcs[F.ref01_Large]? = some Tryz.f68 := Tryz.func68
abbrev F.expr_checked : Nat := 71
theorem D.expr_checked : T.prog.funcs[F.expr_checked]? = some Tryz.f71 := Tryz.func71
abbrev F.ref04_IsName : Nat := 73
theorem D.ref04_IsName : T.prog.funcs[F.ref04_IsName]? = some Tryz.f73 := Tryz.func73
abbrev F.ref04_fits : Nat := 76
theorem D.ref04_fits : T.prog.funcs[F.ref04_fits]? = some Tryz.f76 := Tryz.func76
abbrev F.ref01_words : Nat := 77
theorem D.ref01_words : T.prog.funcs[F.ref01_words]? = some Tryz.f77 := Tryz.func77
abbrev F.ref01_NatOf : Nat := 78
theorem D.ref01_NatOf : T.prog.funcs[F.ref01_NatOf]? = some Tryz.f78 := Tryz.func78
abbrev F.ref01_Make : Nat := 79
theorem D.ref01_Make : T.prog.funcs[F.ref01_Make]? = some Tryz.f79 := Tryz.func79
abbrev F.ref04_walk : Nat := 83
theorem D.ref04_walk : T.prog.funcs[F.ref04_walk]? = some Tryz.f83 := Tryz.func83
abbrev F.ref01_Diff : Nat := 84
theorem D.ref01_Diff : T.prog.funcs[F.ref01_Diff]? = some Tryz.f84 := Tryz.func84
abbrev F.ref01_Sum : Nat := 85
theorem D.ref01_Sum : T.prog.funcs[F.ref01_Sum]? = some Tryz.f85 := Tryz.func85
abbrev F.expr_count : Nat := 89
theorem D.expr_count : T.prog.funcs[F.expr_count]? = some Tryz.f89 := Tryz.func89
abbrev F.syntax_Scan : Nat := 95
theorem D.syntax_Scan : T.prog.funcs[F.syntax_Scan]? = some Tryz.f95 := Tryz.func95
abbrev F.syntax_New : Nat := 96
theorem D.syntax_New : T.prog.funcs[F.syntax_New]? = some Tryz.f96 := Tryz.func96
abbrev F.syntax_Run : Nat := 97
abbrev F.expr_Parse_1 : Nat := 98
theorem D.expr_Parse_1 : T.prog.funcs[F.expr_Parse_1]? = some Tryz.f98 := Tryz.func98
abbrev F.psyntax_Parser_Expr : Nat := 99
theorem D.psyntax_Parser_Expr : T.prog.funcs[F.psyntax_Parser_Expr]? = some Tryz.f99 := Tryz.func99
abbrev F.psyntax_Parser_Done : Nat := 100
theorem D.psyntax_Parser_Done : T.prog.funcs[F.psyntax_Parser_Done]? = some Tryz.f100 := Tryz.func100
abbrev F.psyntax_Parser_Check : Nat := 101
theorem D.psyntax_Parser_Check : T.prog.funcs[F.psyntax_Parser_Check]? = some Tryz.f101 := Tryz.func101
abbrev F.ref04_Scan : Nat := 102
theorem D.ref04_Scan : T.prog.funcs[F.ref04_Scan]? = some Tryz.f102 := Tryz.func102
abbrev F.ref04_Begin : Nat := 103
theorem D.ref04_Begin : T.prog.funcs[F.ref04_Begin]? = some Tryz.f103 := Tryz.func103
abbrev F.pref04_Reader_Sum : Nat := 104
theorem D.pref04_Reader_Sum : T.prog.funcs[F.pref04_Reader_Sum]? = some Tryz.f104 := Tryz.func104
abbrev F.pref04_Reader_Next : Nat := 105
theorem D.pref04_Reader_Next : T.prog.funcs[F.pref04_Reader_Next]? = some Tryz.f105 := Tryz.func105
abbrev F.pref04_Reader_Fail : Nat := 106
theorem D.pref04_Reader_Fail : T.prog.funcs[F.pref04_Reader_Fail]? = some Tryz.f106 := Tryz.func106
abbrev F.ref04_Numbers : Nat := 107
theorem D.ref04_Numbers : T.prog.funcs[F.ref04_Numbers]? = some Tryz.f107 := Tryz.func107
abbrev F.expr_text : Nat := 108
theorem D.expr_text : T.prog.funcs[F.expr_text]? = some Tryz.f108 := Tryz.func108
abbrev F.ref04_Text : Nat := 109
theorem D.ref04_Text : T.prog.funcs[F.ref04_Text]? = some Tryz.f109 := Tryz.func109
abbrev F.ref01_Text : Nat := 110
theorem D.ref01_Text : T.prog.funcs[F.ref01_Text]? = some Tryz.f110 := Tryz.func110
abbrev F.syntax_IsName : Nat := 119
theorem D.syntax_IsName : T.prog.funcs[F.syntax_IsName]? = some Tryz.f119 := Tryz.func119
abbrev F.number_one : Nat := 120
theorem D.number_one : T.prog.funcs[F.number_one]? = some Tryz.f120 := Tryz.func120
abbrev F.number_Canon_1 : Nat := 121
theorem D.number_Canon_1 : T.prog.funcs[F.number_Canon_1]? = some Tryz.f121 := Tryz.func121
abbrev F.ref01_Over : Nat := 126
theorem D.ref01_Over : T.prog.funcs[F.ref01_Over]? = some Tryz.f126 := Tryz.func126
abbrev F.ref01_list : Nat := 127
theorem D.ref01_list : T.prog.funcs[F.ref01_list]? = some Tryz.f127 := Tryz.func127
abbrev F.ref01_Q_whole : Nat := 128
theorem D.ref01_Q_whole : T.prog.funcs[F.ref01_Q_whole]? = some Tryz.f128 := Tryz.func128
abbrev F.word_Of : Nat := 129
theorem D.word_Of : T.prog.funcs[F.word_Of]? = some Tryz.f129 := Tryz.func129
abbrev F.word_Nat_Zero : Nat := 130
theorem D.word_Nat_Zero : T.prog.funcs[F.word_Nat_Zero]? = some Tryz.f130 := Tryz.func130
abbrev F.word_Small : Nat := 131
theorem D.word_Small : T.prog.funcs[F.word_Small]? = some Tryz.f131 := Tryz.func131
abbrev F.word_Reduce : Nat := 132
theorem D.word_Reduce : T.prog.funcs[F.word_Reduce]? = some Tryz.f132 := Tryz.func132
abbrev F.word_Frac_Fits : Nat := 133
theorem D.word_Frac_Fits : T.prog.funcs[F.word_Frac_Fits]? = some Tryz.f133 := Tryz.func133
abbrev F.word_Frac_Give : Nat := 134
theorem D.word_Frac_Give : T.prog.funcs[F.word_Frac_Give]? = some Tryz.f134 := Tryz.func134
abbrev F.ref04_one : Nat := 136
theorem D.ref04_one : T.prog.funcs[F.ref04_one]? = some Tryz.f136 := Tryz.func136
abbrev F.ref01_Opp : Nat := 138
theorem D.ref01_Opp : T.prog.funcs[F.ref01_Opp]? = some Tryz.f138 := Tryz.func138
abbrev F.ref04_word : Nat := 143
theorem D.ref04_word : T.prog.funcs[F.ref04_word]? = some Tryz.f143 := Tryz.func143
abbrev F.ref04_reserved : Nat := 144
theorem D.ref04_reserved : T.prog.funcs[F.ref04_reserved]? = some Tryz.f144 := Tryz.func144
abbrev F.ref01_Int : Nat := 145
theorem D.ref01_Int : T.prog.funcs[F.ref01_Int]? = some Tryz.f145 := Tryz.func145
abbrev F.ref04_two : Nat := 147
theorem D.ref04_two : T.prog.funcs[F.ref04_two]? = some Tryz.f147 := Tryz.func147
abbrev F.ref04_Fits : Nat := 149
theorem D.ref04_Fits : T.prog.funcs[F.ref04_Fits]? = some Tryz.f149 := Tryz.func149
abbrev F.ref01_trim : Nat := 150
theorem D.ref01_trim : T.prog.funcs[F.ref01_trim]? = some Tryz.f150 := Tryz.func150
abbrev F.ref01_NatGcd : Nat := 151
theorem D.ref01_NatGcd : T.prog.funcs[F.ref01_NatGcd]? = some Tryz.f151 := Tryz.func151
abbrev F.ref01_NatDiv : Nat := 152
theorem D.ref01_NatDiv : T.prog.funcs[F.ref01_NatDiv]? = some Tryz.f152 := Tryz.func152
abbrev F.ref04_node : Nat := 154
theorem D.ref04_node : T.prog.funcs[F.ref04_node]? = some Tryz.f154 := Tryz.func154
abbrev F.ref01_NatMul : Nat := 155
theorem D.ref01_NatMul : T.prog.funcs[F.ref01_NatMul]? = some Tryz.f155 := Tryz.func155
abbrev F.ref01_Q_den : Nat := 156
theorem D.ref01_Q_den : T.prog.funcs[F.ref01_Q_den]? = some Tryz.f156 := Tryz.func156
abbrev F.ref01_NatAdd : Nat := 157
theorem D.ref01_NatAdd : T.prog.funcs[F.ref01_NatAdd]? = some Tryz.f157 := Tryz.func157
abbrev F.ref01_NatCmp : Nat := 158
theorem D.ref01_NatCmp : T.prog.funcs[F.ref01_NatCmp]? = some Tryz.f158 := Tryz.func158
abbrev F.ref01_NatSub : Nat := 159
theorem D.ref01_NatSub : T.prog.funcs[F.ref01_NatSub]? = some Tryz.f159 := Tryz.func159
abbrev F.expr_fields : Nat := 160
theorem D.expr_fields : T.prog.funcs[F.expr_fields]? = some Tryz.f160 := Tryz.func160
abbrev F.syntax_word : Nat := 167
theorem D.syntax_word : T.prog.funcs[F.syntax_word]? = some Tryz.f167 := Tryz.func167
abbrev F.elem_Find : Nat := 168
theorem D.elem_Find : T.prog.funcs[F.elem_Find]? = some Tryz.f168 := Tryz.func168
abbrev F.syntax_Reserved : Nat := 169
theorem D.syntax_Reserved : T.prog.funcs[F.syntax_Reserved]? = some Tryz.f169 := Tryz.func169
abbrev F.syntax_number : Nat := 170
theorem D.syntax_number : T.prog.funcs[F.syntax_number]? = some Tryz.f170 := Tryz.func170
abbrev F.strings_HasPrefix : Nat := 171
theorem D.strings_HasPrefix : T.prog.funcs[F.strings_HasPrefix]? = some Tryz.f171 := Tryz.func171
abbrev F.syntax_Run_1 : Nat := 172
abbrev F.psyntax_Parser_term : Nat := 173
theorem D.psyntax_Parser_term : T.prog.funcs[F.psyntax_Parser_term]? = some Tryz.f173 := Tryz.func173
abbrev F.psyntax_Parser_Accept : Nat := 174
theorem D.psyntax_Parser_Accept : T.prog.funcs[F.psyntax_Parser_Accept]? = some Tryz.f174 := Tryz.func174
abbrev F.syntax_node : Nat := 175
theorem D.syntax_node : T.prog.funcs[F.syntax_node]? = some Tryz.f175 := Tryz.func175
abbrev F.psyntax_Parser_Fail : Nat := 176
theorem D.psyntax_Parser_Fail : T.prog.funcs[F.psyntax_Parser_Fail]? = some Tryz.f176 := Tryz.func176
abbrev F.strings_Cut : Nat := 177
theorem D.strings_Cut : T.prog.funcs[F.strings_Cut]? = some Tryz.f177 := Tryz.func177
abbrev F.strings_Trim : Nat := 178
theorem D.strings_Trim : T.prog.funcs[F.strings_Trim]? = some Tryz.f178 := Tryz.func178
abbrev F.number_Parse : Nat := 179
theorem D.number_Parse : T.prog.funcs[F.number_Parse]? = some Tryz.f179 := Tryz.func179
abbrev F.ref04_letters : Nat := 180
theorem D.ref04_letters : T.prog.funcs[F.ref04_letters]? = some Tryz.f180 := Tryz.func180
abbrev F.ref04_kind : Nat := 181
theorem D.ref04_kind : T.prog.funcs[F.ref04_kind]? = some Tryz.f181 := Tryz.func181
abbrev F.ref04_number : Nat := 182
theorem D.ref04_number : T.prog.funcs[F.ref04_number]? = some Tryz.f182 := Tryz.func182
abbrev F.ref04_sign : Nat := 183
theorem D.ref04_sign : T.prog.funcs[F.ref04_sign]? = some Tryz.f183 := Tryz.func183
abbrev F.pref04_Reader_term : Nat := 184
theorem D.pref04_Reader_term : T.prog.funcs[F.pref04_Reader_term]? = some Tryz.f184 := Tryz.func184
abbrev F.pref04_Reader_At : Nat := 185
theorem D.pref04_Reader_At : T.prog.funcs[F.pref04_Reader_At]? = some Tryz.f185 := Tryz.func185
abbrev F.ref04_nought : Nat := 186
theorem D.ref04_nought : T.prog.funcs[F.ref04_nought]? = some Tryz.f186 := Tryz.func186
abbrev F.ref01_Parse : Nat := 187
theorem D.ref01_Parse : T.prog.funcs[F.ref01_Parse]? = some Tryz.f187 := Tryz.func187
abbrev F.ref04_whole : Nat := 188
theorem D.ref04_whole : T.prog.funcs[F.ref04_whole]? = some Tryz.f188 := Tryz.func188
abbrev F.expr_write : Nat := 189
theorem D.expr_write : T.prog.funcs[F.expr_write]? = some Tryz.f189 := Tryz.func189
abbrev F.pstrings_Builder_String : Nat := 190
theorem D.pstrings_Builder_String : T.prog.funcs[F.pstrings_Builder_String]? = some Tryz.f190 := Tryz.func190
abbrev F.ref04_placed : Nat := 191
theorem D.ref04_placed : T.prog.funcs[F.ref04_placed]? = some Tryz.f191 := Tryz.func191
abbrev F.ref04_Digits : Nat := 192
theorem D.ref04_Digits : T.prog.funcs[F.ref04_Digits]? = some Tryz.f192 := Tryz.func192
abbrev F.ref04_called : Nat := 193
theorem D.ref04_called : T.prog.funcs[F.ref04_called]? = some Tryz.f193 := Tryz.func193
abbrev F.ref01_natText : Nat := 194
theorem D.ref01_natText : T.prog.funcs[F.ref01_natText]? = some Tryz.f194 := Tryz.func194
abbrev F.word_Frac_Sign : Nat := 197
theorem D.word_Frac_Sign : T.prog.funcs[F.word_Frac_Sign]? = some Tryz.f197 := Tryz.func197
abbrev F.word_Nat_Twos : Nat := 223
theorem D.word_Nat_Twos : T.prog.funcs[F.word_Nat_Twos]? = some Tryz.f223 := Tryz.func223
abbrev F.word_Nat_Shr : Nat := 224
theorem D.word_Nat_Shr : T.prog.funcs[F.word_Nat_Shr]? = some Tryz.f224 := Tryz.func224
abbrev F.word_Nat_Bits : Nat := 225
theorem D.word_Nat_Bits : T.prog.funcs[F.word_Nat_Bits]? = some Tryz.f225 := Tryz.func225
abbrev F.word_Nat_GCD : Nat := 226
theorem D.word_Nat_GCD : T.prog.funcs[F.word_Nat_GCD]? = some Tryz.f226 := Tryz.func226
abbrev F.word_Nat_One : Nat := 227
theorem D.word_Nat_One : T.prog.funcs[F.word_Nat_One]? = some Tryz.f227 := Tryz.func227
abbrev F.word_Nat_Div : Nat := 228
theorem D.word_Nat_Div : T.prog.funcs[F.word_Nat_Div]? = some Tryz.f228 := Tryz.func228
abbrev F.slices_Clone_of__of_uint32_uint32 : Nat := 229
theorem D.slices_Clone_of__of_uint32_uint32 : T.prog.funcs[F.slices_Clone_of__of_uint32_uint32]? = some Tryz.f229 := Tryz.func229
abbrev F.ref01_small : Nat := 231
theorem D.ref01_small : T.prog.funcs[F.ref01_small]? = some Tryz.f231 := Tryz.func231
abbrev F.ref01_NatShl : Nat := 232
theorem D.ref01_NatShl : T.prog.funcs[F.ref01_NatShl]? = some Tryz.f232 := Tryz.func232
abbrev F.ref01_digit : Nat := 233
theorem D.ref01_digit : T.prog.funcs[F.ref01_digit]? = some Tryz.f233 := Tryz.func233
abbrev F.ref01_NatShr : Nat := 234
theorem D.ref01_NatShr : T.prog.funcs[F.ref01_NatShr]? = some Tryz.f234 := Tryz.func234
abbrev F.ref04_kids : Nat := 235
theorem D.ref04_kids : T.prog.funcs[F.ref04_kids]? = some Tryz.f235 := Tryz.func235
abbrev F.ref04_argument : Nat := 236
theorem D.ref04_argument : T.prog.funcs[F.ref04_argument]? = some Tryz.f236 := Tryz.func236
abbrev F.ref01_Zero : Nat := 237
theorem D.ref01_Zero : T.prog.funcs[F.ref01_Zero]? = some Tryz.f237 := Tryz.func237
abbrev F.expr_kids : Nat := 238
theorem D.expr_kids : T.prog.funcs[F.expr_kids]? = some Tryz.f238 := Tryz.func238
abbrev F.syntax_letter : Nat := 242
theorem D.syntax_letter : T.prog.funcs[F.syntax_letter]? = some Tryz.f242 := Tryz.func242
abbrev F.syntax_digit : Nat := 243
theorem D.syntax_digit : T.prog.funcs[F.syntax_digit]? = some Tryz.f243 := Tryz.func243
abbrev F.elem_names : Nat := 244
theorem D.elem_names : T.prog.funcs[F.elem_names]? = some Tryz.f244 := Tryz.func244
abbrev F.syntax_digits : Nat := 245
theorem D.syntax_digits : T.prog.funcs[F.syntax_digits]? = some Tryz.f245 := Tryz.func245
abbrev F.internal_stringslite_HasPrefix : Nat := 246
theorem D.internal_stringslite_HasPrefix : T.prog.funcs[F.internal_stringslite_HasPrefix]? = some Tryz.f246 := Tryz.func246
abbrev F.psyntax_Parser_factor : Nat := 247
theorem D.psyntax_Parser_factor : T.prog.funcs[F.psyntax_Parser_factor]? = some Tryz.f247 := Tryz.func247
abbrev F.psyntax_Parser_At : Nat := 248
theorem D.psyntax_Parser_At : T.prog.funcs[F.psyntax_Parser_At]? = some Tryz.f248 := Tryz.func248
abbrev F.internal_stringslite_Cut : Nat := 249
theorem D.internal_stringslite_Cut : T.prog.funcs[F.internal_stringslite_Cut]? = some Tryz.f249 := Tryz.func249
abbrev F.strings_trimLeftByte : Nat := 250
theorem D.strings_trimLeftByte : T.prog.funcs[F.strings_trimLeftByte]? = some Tryz.f250 := Tryz.func250
abbrev F.strings_trimRightByte : Nat := 251
theorem D.strings_trimRightByte : T.prog.funcs[F.strings_trimRightByte]? = some Tryz.f251 := Tryz.func251
abbrev F.number_run : Nat := 257
theorem D.number_run : T.prog.funcs[F.number_run]? = some Tryz.f257 := Tryz.func257
abbrev F.number_natural : Nat := 258
theorem D.number_natural : T.prog.funcs[F.number_natural]? = some Tryz.f258 := Tryz.func258
abbrev F.word_Nat_Pow : Nat := 259
theorem D.word_Nat_Pow : T.prog.funcs[F.word_Nat_Pow]? = some Tryz.f259 := Tryz.func259
abbrev F.ref02_Find : Nat := 260
theorem D.ref02_Find : T.prog.funcs[F.ref02_Find]? = some Tryz.f260 := Tryz.func260
abbrev F.ref04_digits : Nat := 261
theorem D.ref04_digits : T.prog.funcs[F.ref04_digits]? = some Tryz.f261 := Tryz.func261
abbrev F.pref04_Reader_factor : Nat := 262
theorem D.pref04_Reader_factor : T.prog.funcs[F.pref04_Reader_factor]? = some Tryz.f262 := Tryz.func262
abbrev F.ref01_run : Nat := 263
theorem D.ref01_run : T.prog.funcs[F.ref01_run]? = some Tryz.f263 := Tryz.func263
abbrev F.ref01_Done : Nat := 264
theorem D.ref01_Done : T.prog.funcs[F.ref01_Done]? = some Tryz.f264 := Tryz.func264
abbrev F.ref01_natRead : Nat := 265
theorem D.ref01_natRead : T.prog.funcs[F.ref01_natRead]? = some Tryz.f265 := Tryz.func265
abbrev F.ref01_NatPow : Nat := 266
theorem D.ref01_NatPow : T.prog.funcs[F.ref01_NatPow]? = some Tryz.f266 := Tryz.func266
abbrev F.number_Format : Nat := 267
theorem D.number_Format : T.prog.funcs[F.number_Format]? = some Tryz.f267 := Tryz.func267
abbrev F.pstrings_Builder_WriteString : Nat := 268
theorem D.pstrings_Builder_WriteString : T.prog.funcs[F.pstrings_Builder_WriteString]? = some Tryz.f268 := Tryz.func268
abbrev F.expr_place : Nat := 269
theorem D.expr_place : T.prog.funcs[F.expr_place]? = some Tryz.f269 := Tryz.func269
abbrev F.expr_infix : Nat := 270
theorem D.expr_infix : T.prog.funcs[F.expr_infix]? = some Tryz.f270 := Tryz.func270
abbrev F.strconv_Itoa : Nat := 271
abbrev F.expr_list : Nat := 272
theorem D.expr_list : T.prog.funcs[F.expr_list]? = some Tryz.f272 := Tryz.func272
abbrev F.ref04_level : Nat := 273
theorem D.ref04_level : T.prog.funcs[F.ref04_level]? = some Tryz.f273 := Tryz.func273
abbrev F.ref02_Name : Nat := 274
theorem D.ref02_Name : T.prog.funcs[F.ref02_Name]? = some Tryz.f274 := Tryz.func274
abbrev F.math_bits_TrailingZeros32 : Nat := 289
theorem D.math_bits_TrailingZeros32 : T.prog.funcs[F.math_bits_TrailingZeros32]? = some Tryz.f289 := Tryz.func289
abbrev F.math_bits_Len32 : Nat := 290
theorem D.math_bits_Len32 : T.prog.funcs[F.math_bits_Len32]? = some Tryz.f290 := Tryz.func290
abbrev F.word_Nat_Cmp : Nat := 291
theorem D.word_Nat_Cmp : T.prog.funcs[F.word_Nat_Cmp]? = some Tryz.f291 := Tryz.func291
abbrev F.word_Nat_DivSmall : Nat := 292
theorem D.word_Nat_DivSmall : T.prog.funcs[F.word_Nat_DivSmall]? = some Tryz.f292 := Tryz.func292
abbrev F.math_bits_LeadingZeros32 : Nat := 293
theorem D.math_bits_LeadingZeros32 : T.prog.funcs[F.math_bits_LeadingZeros32]? = some Tryz.f293 := Tryz.func293
abbrev F.word_Nat_Shl : Nat := 294
theorem D.word_Nat_Shl : T.prog.funcs[F.word_Nat_Shl]? = some Tryz.f294 := Tryz.func294
abbrev F.word_digit : Nat := 295
theorem D.word_digit : T.prog.funcs[F.word_digit]? = some Tryz.f295 := Tryz.func295
abbrev F.ref01_less : Nat := 296
theorem D.ref01_less : T.prog.funcs[F.ref01_less]? = some Tryz.f296 := Tryz.func296
abbrev F.math_bits_Len64 : Nat := 306
abbrev F.psyntax_Parser_atom : Nat := 307
theorem D.psyntax_Parser_atom : T.prog.funcs[F.psyntax_Parser_atom]? = some Tryz.f307 := Tryz.func307
abbrev F.psyntax_Parser_count : Nat := 308
theorem D.psyntax_Parser_count : T.prog.funcs[F.psyntax_Parser_count]? = some Tryz.f308 := Tryz.func308
abbrev F.internal_stringslite_Index : Nat := 309
theorem D.internal_stringslite_Index : T.prog.funcs[F.internal_stringslite_Index]? = some Tryz.f309 := Tryz.func309
abbrev F.word_Nat_Mul : Nat := 314
theorem D.word_Nat_Mul : T.prog.funcs[F.word_Nat_Mul]? = some Tryz.f314 := Tryz.func314
abbrev F.word_Nat_Add : Nat := 315
theorem D.word_Nat_Add : T.prog.funcs[F.word_Nat_Add]? = some Tryz.f315 := Tryz.func315
abbrev F.pref04_Reader_atom : Nat := 316
theorem D.pref04_Reader_atom : T.prog.funcs[F.pref04_Reader_atom]? = some Tryz.f316 := Tryz.func316
abbrev F.pref04_Reader_digits : Nat := 317
theorem D.pref04_Reader_digits : T.prog.funcs[F.pref04_Reader_digits]? = some Tryz.f317 := Tryz.func317
abbrev F.number_decimal : Nat := 318
theorem D.number_decimal : T.prog.funcs[F.number_decimal]? = some Tryz.f318 := Tryz.func318
abbrev F.pstrings_Builder_copyCheck : Nat := 319
abbrev F.expr_level : Nat := 320
theorem D.expr_level : T.prog.funcs[F.expr_level]? = some Tryz.f320 := Tryz.func320
abbrev F.internal_strconv_Itoa : Nat := 321
abbrev F.elem_Name : Nat := 322
theorem D.elem_Name : T.prog.funcs[F.elem_Name]? = some Tryz.f322 := Tryz.func322
abbrev F.psyntax_Parser_Next : Nat := 333
theorem D.psyntax_Parser_Next : T.prog.funcs[F.psyntax_Parser_Next]? = some Tryz.f333 := Tryz.func333
abbrev F.psyntax_Parser_kids : Nat := 334
theorem D.psyntax_Parser_kids : T.prog.funcs[F.psyntax_Parser_kids]? = some Tryz.f334 := Tryz.func334
abbrev F.psyntax_Parser_Want : Nat := 335
theorem D.psyntax_Parser_Want : T.prog.funcs[F.psyntax_Parser_Want]? = some Tryz.f335 := Tryz.func335
abbrev F.psyntax_Parser_Number : Nat := 336
theorem D.psyntax_Parser_Number : T.prog.funcs[F.psyntax_Parser_Number]? = some Tryz.f336 := Tryz.func336
abbrev F.internal_stringslite_IndexByte : Nat := 337
abbrev F.pref04_Reader_list : Nat := 344
theorem D.pref04_Reader_list : T.prog.funcs[F.pref04_Reader_list]? = some Tryz.f344 := Tryz.func344
abbrev F.pref04_Reader_other : Nat := 345
theorem D.pref04_Reader_other : T.prog.funcs[F.pref04_Reader_other]? = some Tryz.f345 := Tryz.func345
abbrev F.slices_Reverse_of__of_byte_byte : Nat := 346
theorem D.slices_Reverse_of__of_byte_byte : T.prog.funcs[F.slices_Reverse_of__of_byte_byte]? = some Tryz.f346 := Tryz.func346
abbrev F.internal_strconv_FormatInt : Nat := 348
abbrev F.pref04_Reader_Take : Nat := 355
theorem D.pref04_Reader_Take : T.prog.funcs[F.pref04_Reader_Take]? = some Tryz.f355 := Tryz.func355
abbrev F.internal_strconv_small : Nat := 356
abbrev F.internal_strconv_numDigits : Nat := 357
abbrev F.internal_strconv_formatBase10 : Nat := 358
abbrev F.internal_strconv_formatBits : Nat := 359
abbrev F.internal_strconv_log10Pow2 : Nat := 360
abbrev F.internal_strconv_bool2_of_int : Nat := 361
abbrev F.internal_strconv_isPowerOfTwo : Nat := 362
abbrev F.math_bits_TrailingZeros : Nat := 363
abbrev F.math_bits_TrailingZeros64 : Nat := 364
abbrev Ty.int64 : Nat := 2
abbrev Ty.int : Nat := 3
abbrev Ty.bool : Nat := 4
abbrev Ty.uint8 : Nat := 5
abbrev Ty.int32 : Nat := 21
abbrev Ty.api_Rat : Nat := 24
abbrev Ty.api_Expr : Nat := 27
abbrev Ty.api_Errno : Nat := 28
abbrev Ty.ref01_Nat : Nat := 44
abbrev Ty.ref01_Q : Nat := 46
abbrev Ty.law04_Parts : Nat := 54
abbrev Ty.api_Value : Nat := 80
abbrev Ty.uint32 : Nat := 88
abbrev Ty.word_Nat : Nat := 89
abbrev Ty.word_Frac : Nat := 91
abbrev Ty.uint64 : Nat := 100
abbrev Ty.api_Bind : Nat := 104
abbrev Ty.syntax_Fault : Nat := 127
abbrev Ty.ref04_Token : Nat := 137
abbrev Ty.ref04_Reader : Nat := 141
abbrev Ty.syntax_Token : Nat := 177
abbrev Ty.syntax_Parser : Nat := 184
abbrev Ty.syntax_count : Nat := 191
abbrev Ty.ref04_Use : Nat := 195
abbrev Ty.expr_operand : Nat := 210
abbrev Gl.math_bits_deBruijn32tab : Nat := 0
abbrev Gl.internal_bytealg_MaxLen : Nat := 1
abbrev Gl.unicode_utf8_first : Nat := 2
abbrev Gl.unicode_utf8_acceptRanges : Nat := 3
abbrev Gl.internal_strconv_uint64pow10 : Nat := 4
abbrev Gl.math_bits_deBruijn64tab : Nat := 5
end Go.Proofs.YtmblpmegfmgjgaaGreatDoor