/- The tables of this seat's translation as the engine wants them: the types' shapes and zero values, the functions' numbers by name. Printed by program; every row is checked by Lean. -/
import Derived.Test.YtmblpmegfmgjgaaGreatDoorProg
import Derived.Test.YtmblpmegfmgjgaaGreatDoorVcRule
import Derived.KernelRfl
set_option linter.unusedVariables false
set_option linter.unusedSimpArgs false
set_option maxRecDepth 100000
namespace Go.Proofs.YtmblpmegfmgjgaaGreatDoor
open Go Go.Vc
inductive BT (α : Type) where
  | leaf
  | node (l : BT α) (k : Nat) (x : α) (r : BT α)
def look {α : Type} : BT α → Nat → Option α
  | .leaf, _ => none
  | .node l k x r, t => match Nat.beq t k with
    | true => some x
    | false => match Nat.blt t k with
      | true => look l t
      | false => look r t
def BT.toL {α : Type} : BT α → List (Nat × α)
  | .leaf => []
  | .node l k x r => l.toL ++ (k, x) :: r.toL
theorem look_mem {α : Type} : ∀ {b : BT α} {t : Nat} {x : α}, look b t = some x → (t, x) ∈ b.toL
  | .leaf, _, _, h => by simp [look] at h
  | .node l k y r, t, x, h => by
    simp only [look] at h
    split at h
    · rename_i e
      obtain rfl := Nat.eq_of_beq_eq_true e
      cases h; simp [BT.toL]
    · split at h
      · exact List.mem_append_left _ (look_mem h)
      · exact List.mem_append_right _ (List.mem_cons_of_mem _ (look_mem h))
def undB : BT TypeDesc := (.node (.node (.node (.node (.node (.node .leaf 1 (.func #[] #[] false) .leaf) 2 (.int .i64) .leaf) 3 (.int .i64) (.node (.node .leaf 4 (.bool) .leaf) 5 (.int .u8) .leaf)) 9 (.string) (.node (.node (.node .leaf 22 (.slice 88) .leaf) 24 (.struct #[⟨"Neg", 4, 0, false, "", "", 0⟩, ⟨"Num", 22, 1, false, "", "", 8⟩, ⟨"Den", 22, 2, false, "", "", 32⟩]) .leaf) 25 (.slice 27) (.node (.node .leaf 27 (.struct #[⟨"Op", 3, 0, false, "", "", 0⟩, ⟨"Arg", 3, 1, false, "", "", 8⟩, ⟨"Num", 24, 2, false, "", "", 16⟩, ⟨"Name", 9, 5, false, "", "", 72⟩, ⟨"Kids", 25, 6, false, "", "", 88⟩]) .leaf) 28 (.int .i64) .leaf))) 32 (.func #[] #[4] false) (.node (.node (.node (.node .leaf 34 (.slice 80) .leaf) 44 (.slice 88) .leaf) 46 (.struct #[⟨"Neg", 4, 0, false, "", "", 0⟩, ⟨"N", 44, 1, false, "", "", 8⟩, ⟨"D", 44, 2, false, "", "", 32⟩]) (.node (.node .leaf 64 (.slice 9) .leaf) 78 (.map 9 24) .leaf)) 80 (.struct #[⟨"Name", 9, 0, false, "", "", 0⟩, ⟨"Num", 24, 1, false, "", "", 16⟩]) (.node (.node (.node .leaf 88 (.int .u32) .leaf) 89 (.slice 88) .leaf) 91 (.struct #[⟨"Neg", 4, 0, false, "", "", 0⟩, ⟨"Num", 89, 1, false, "", "", 8⟩, ⟨"Den", 89, 2, false, "", "", 32⟩]) (.node (.node .leaf 100 (.int .u64) .leaf) 121 (.slice 177) .leaf)))) 124 (.pointer 184) (.node (.node (.node (.node (.node .leaf 127 (.struct #[⟨"Err", 28, 0, false, "", "", 0⟩, ⟨"At", 3, 1, false, "", "", 8⟩]) .leaf) 146 (.func #[91] #[91] false) .leaf) 148 (.slice 24) (.node (.node .leaf 177 (.struct #[⟨"Kind", 3, 0, false, "", "", 0⟩, ⟨"Text", 9, 1, false, "", "", 8⟩, ⟨"At", 3, 2, false, "", "", 24⟩]) .leaf) 182 (.slice 191) .leaf)) 184 (.struct #[⟨"tokens", 121, 0, false, "", "inequality/syntax", 0⟩, ⟨"next", 3, 1, false, "", "inequality/syntax", 24⟩, ⟨"end", 3, 2, false, "", "inequality/syntax", 32⟩, ⟨"counts", 182, 3, false, "", "inequality/syntax", 40⟩]) (.node (.node (.node .leaf 185 (.slice 127) .leaf) 191 (.struct #[⟨"at", 3, 0, false, "", "inequality/syntax", 0⟩, ⟨"low", 3, 1, false, "", "inequality/syntax", 8⟩, ⟨"high", 3, 2, false, "", "inequality/syntax", 16⟩, ⟨"n", 3, 3, false, "", "inequality/syntax", 24⟩]) .leaf) 196 (.pointer 199) (.node (.node .leaf 197 (.slice 5) .leaf) 199 (.struct #[⟨"addr", 196, 0, false, "", "strings", 0⟩, ⟨"buf", 197, 1, false, "", "strings", 8⟩]) .leaf))) 210 (.struct #[⟨"e", 27, 0, false, "", "inequality/expr", 0⟩, ⟨"x", 91, 7, false, "", "inequality/expr", 112⟩, ⟨"is", 4, 10, false, "", "inequality/expr", 168⟩]) (.node (.node (.node (.node .leaf 225 (.int .u64) .leaf) 243 (.array 256 4) .leaf) 247 (.pointer 243) (.node (.node .leaf 260 (.pointer 5) .leaf) 267 (.func #[91, 91] #[91] false) .leaf)) 291 (.map 3 9) (.node (.node (.node .leaf 293 (.array 32 5) .leaf) 323 (.array 24 5) .leaf) 327 (.array 20 100) (.node (.node .leaf 328 (.array 65 5) .leaf) 329 (.array 64 5) .leaf)))))
def infB : BT (List Value × Nat) := (.node (.node (.node (.node (.node (.node .leaf 1 ([.nilFunc], 8) .leaf) 2 ([.int .i64 0], 8) .leaf) 3 ([.int .i64 0], 8) (.node (.node .leaf 4 ([.bool false], 1) .leaf) 5 ([.int .u8 0], 1) .leaf)) 9 ([.string ByteArray.empty], 16) (.node (.node (.node .leaf 22 ([.slice none 0 0], 24) .leaf) 24 ([.bool false, .slice none 0 0, .slice none 0 0], 56) .leaf) 25 ([.slice none 0 0], 24) (.node (.node .leaf 27 ([.int .i64 0, .int .i64 0, .bool false, .slice none 0 0, .slice none 0 0, .string ByteArray.empty, .slice none 0 0], 112) .leaf) 28 ([.int .i64 0], 8) .leaf))) 32 ([.nilFunc], 8) (.node (.node (.node (.node .leaf 34 ([.slice none 0 0], 24) .leaf) 44 ([.slice none 0 0], 24) .leaf) 46 ([.bool false, .slice none 0 0, .slice none 0 0], 56) (.node (.node .leaf 64 ([.slice none 0 0], 24) .leaf) 78 ([.map none], 8) .leaf)) 80 ([.string ByteArray.empty, .bool false, .slice none 0 0, .slice none 0 0], 72) (.node (.node (.node .leaf 88 ([.int .u32 0], 4) .leaf) 89 ([.slice none 0 0], 24) .leaf) 91 ([.bool false, .slice none 0 0, .slice none 0 0], 56) (.node (.node .leaf 100 ([.int .u64 0], 8) .leaf) 121 ([.slice none 0 0], 24) .leaf)))) 124 ([.pointer none], 8) (.node (.node (.node (.node (.node .leaf 127 ([.int .i64 0, .int .i64 0], 16) .leaf) 146 ([.nilFunc], 8) .leaf) 148 ([.slice none 0 0], 24) (.node (.node .leaf 177 ([.int .i64 0, .string ByteArray.empty, .int .i64 0], 32) .leaf) 182 ([.slice none 0 0], 24) .leaf)) 184 ([.slice none 0 0, .int .i64 0, .int .i64 0, .slice none 0 0], 64) (.node (.node (.node .leaf 185 ([.slice none 0 0], 24) .leaf) 191 ([.int .i64 0, .int .i64 0, .int .i64 0, .int .i64 0], 32) .leaf) 196 ([.pointer none], 8) (.node (.node .leaf 197 ([.slice none 0 0], 24) .leaf) 199 ([.pointer none, .slice none 0 0], 32) .leaf))) 210 ([.int .i64 0, .int .i64 0, .bool false, .slice none 0 0, .slice none 0 0, .string ByteArray.empty, .slice none 0 0, .bool false, .slice none 0 0, .slice none 0 0, .bool false], 176) (.node (.node (.node (.node .leaf 225 ([.int .u64 0], 8) .leaf) 247 ([.pointer none], 8) .leaf) 260 ([.pointer none], 8) (.node (.node .leaf 267 ([.nilFunc], 8) .leaf) 291 ([.map none], 8) .leaf)) 293 ([.int .u8 0, .int .u8 0, .int .u8 0, .int .u8 0, .int .u8 0, .int .u8 0, .int .u8 0, .int .u8 0, .int .u8 0, .int .u8 0, .int .u8 0, .int .u8 0, .int .u8 0, .int .u8 0, .int .u8 0, .int .u8 0, .int .u8 0, .int .u8 0, .int .u8 0, .int .u8 0, .int .u8 0, .int .u8 0, .int .u8 0, .int .u8 0, .int .u8 0, .int .u8 0, .int .u8 0, .int .u8 0, .int .u8 0, .int .u8 0, .int .u8 0, .int .u8 0], 32) (.node (.node (.node .leaf 309 ([.pointer none], 8) .leaf) 323 ([.int .u8 0, .int .u8 0, .int .u8 0, .int .u8 0, .int .u8 0, .int .u8 0, .int .u8 0, .int .u8 0, .int .u8 0, .int .u8 0, .int .u8 0, .int .u8 0, .int .u8 0, .int .u8 0, .int .u8 0, .int .u8 0, .int .u8 0, .int .u8 0, .int .u8 0, .int .u8 0, .int .u8 0, .int .u8 0, .int .u8 0, .int .u8 0], 24) .leaf) 327 ([.int .u64 0, .int .u64 0, .int .u64 0, .int .u64 0, .int .u64 0, .int .u64 0, .int .u64 0, .int .u64 0, .int .u64 0, .int .u64 0, .int .u64 0, .int .u64 0, .int .u64 0, .int .u64 0, .int .u64 0, .int .u64 0, .int .u64 0, .int .u64 0, .int .u64 0, .int .u64 0], 160) (.node .leaf 329 ([.int .u8 0, .int .u8 0, .int .u8 0, .int .u8 0, .int .u8 0, .int .u8 0, .int .u8 0, .int .u8 0, .int .u8 0, .int .u8 0, .int .u8 0, .int .u8 0, .int .u8 0, .int .u8 0, .int .u8 0, .int .u8 0, .int .u8 0, .int .u8 0, .int .u8 0, .int .u8 0, .int .u8 0, .int .u8 0, .int .u8 0, .int .u8 0, .int .u8 0, .int .u8 0, .int .u8 0, .int .u8 0, .int .u8 0, .int .u8 0, .int .u8 0, .int .u8 0, .int .u8 0, .int .u8 0, .int .u8 0, .int .u8 0, .int .u8 0, .int .u8 0, .int .u8 0, .int .u8 0, .int .u8 0, .int .u8 0, .int .u8 0, .int .u8 0, .int .u8 0, .int .u8 0, .int .u8 0, .int .u8 0, .int .u8 0, .int .u8 0, .int .u8 0, .int .u8 0, .int .u8 0, .int .u8 0, .int .u8 0, .int .u8 0, .int .u8 0, .int .u8 0, .int .u8 0, .int .u8 0, .int .u8 0, .int .u8 0, .int .u8 0, .int .u8 0], 64) .leaf)))))
def fnB : BT Unit := (.node (.node (.node (.node (.node (.node (.node (.node .leaf 3 () .leaf) 10 () (.node .leaf 17 () .leaf)) 18 () (.node (.node .leaf 19 () .leaf) 20 () .leaf)) 21 () (.node (.node (.node .leaf 24 () .leaf) 31 () (.node .leaf 32 () .leaf)) 36 () (.node (.node .leaf 39 () .leaf) 48 () .leaf))) 50 () (.node (.node (.node (.node .leaf 52 () .leaf) 55 () (.node .leaf 56 () .leaf)) 57 () (.node (.node .leaf 58 () .leaf) 59 () .leaf)) 60 () (.node (.node (.node .leaf 61 () .leaf) 62 () .leaf) 65 () (.node (.node .leaf 66 () .leaf) 67 () .leaf)))) 68 () (.node (.node (.node (.node (.node .leaf 69 () .leaf) 71 () (.node .leaf 73 () .leaf)) 77 () (.node (.node .leaf 78 () .leaf) 79 () .leaf)) 83 () (.node (.node (.node .leaf 84 () .leaf) 85 () (.node .leaf 86 () .leaf)) 87 () (.node (.node .leaf 89 () .leaf) 95 () .leaf))) 96 () (.node (.node (.node (.node .leaf 97 () .leaf) 98 () (.node .leaf 99 () .leaf)) 100 () (.node (.node .leaf 101 () .leaf) 108 () .leaf)) 111 () (.node (.node (.node .leaf 112 () .leaf) 113 () .leaf) 114 () (.node (.node .leaf 115 () .leaf) 116 () .leaf))))) 117 () (.node (.node (.node (.node (.node (.node .leaf 118 () .leaf) 119 () (.node .leaf 120 () .leaf)) 121 () (.node (.node .leaf 122 () .leaf) 123 () .leaf)) 124 () (.node (.node (.node .leaf 126 () .leaf) 127 () (.node .leaf 128 () .leaf)) 129 () (.node (.node .leaf 130 () .leaf) 131 () .leaf))) 132 () (.node (.node (.node (.node .leaf 133 () .leaf) 134 () (.node .leaf 135 () .leaf)) 136 () (.node (.node .leaf 137 () .leaf) 138 () .leaf)) 140 () (.node (.node (.node .leaf 143 () .leaf) 144 () .leaf) 145 () (.node (.node .leaf 147 () .leaf) 150 () .leaf)))) 151 () (.node (.node (.node (.node (.node .leaf 152 () .leaf) 154 () (.node .leaf 155 () .leaf)) 156 () (.node (.node .leaf 157 () .leaf) 158 () .leaf)) 159 () (.node (.node (.node .leaf 160 () .leaf) 167 () .leaf) 168 () (.node (.node .leaf 169 () .leaf) 170 () .leaf))) 171 () (.node (.node (.node (.node .leaf 172 () .leaf) 173 () (.node .leaf 174 () .leaf)) 175 () (.node (.node .leaf 176 () .leaf) 177 () .leaf)) 178 () (.node (.node (.node .leaf 179 () .leaf) 189 () .leaf) 190 () (.node (.node .leaf 195 () .leaf) 196 () .leaf)))))) 197 () (.node (.node (.node (.node (.node (.node (.node .leaf 198 () .leaf) 199 () (.node .leaf 200 () .leaf)) 201 () (.node (.node .leaf 202 () .leaf) 203 () .leaf)) 204 () (.node (.node (.node .leaf 205 () .leaf) 206 () (.node .leaf 207 () .leaf)) 208 () (.node (.node .leaf 209 () .leaf) 210 () .leaf))) 211 () (.node (.node (.node (.node .leaf 212 () .leaf) 213 () (.node .leaf 214 () .leaf)) 215 () (.node (.node .leaf 216 () .leaf) 217 () .leaf)) 218 () (.node (.node (.node .leaf 219 () .leaf) 220 () .leaf) 223 () (.node (.node .leaf 224 () .leaf) 225 () .leaf)))) 226 () (.node (.node (.node (.node (.node .leaf 227 () .leaf) 228 () (.node .leaf 229 () .leaf)) 230 () (.node (.node .leaf 231 () .leaf) 232 () .leaf)) 233 () (.node (.node (.node .leaf 234 () .leaf) 235 () (.node .leaf 236 () .leaf)) 237 () (.node (.node .leaf 238 () .leaf) 242 () .leaf))) 243 () (.node (.node (.node (.node .leaf 244 () .leaf) 245 () (.node .leaf 246 () .leaf)) 247 () (.node (.node .leaf 248 () .leaf) 249 () .leaf)) 250 () (.node (.node (.node .leaf 251 () .leaf) 257 () .leaf) 258 () (.node (.node .leaf 259 () .leaf) 266 () .leaf))))) 267 () (.node (.node (.node (.node (.node (.node .leaf 268 () .leaf) 269 () (.node .leaf 270 () .leaf)) 271 () (.node (.node .leaf 272 () .leaf) 275 () .leaf)) 276 () (.node (.node (.node .leaf 277 () .leaf) 278 () (.node .leaf 279 () .leaf)) 280 () (.node (.node .leaf 281 () .leaf) 282 () .leaf))) 283 () (.node (.node (.node (.node .leaf 289 () .leaf) 290 () (.node .leaf 291 () .leaf)) 292 () (.node (.node .leaf 293 () .leaf) 294 () .leaf)) 295 () (.node (.node (.node .leaf 296 () .leaf) 306 () .leaf) 307 () (.node (.node .leaf 308 () .leaf) 309 () .leaf)))) 314 () (.node (.node (.node (.node (.node .leaf 315 () .leaf) 318 () (.node .leaf 319 () .leaf)) 320 () (.node (.node .leaf 321 () .leaf) 322 () .leaf)) 323 () (.node (.node (.node .leaf 324 () .leaf) 325 () .leaf) 333 () (.node (.node .leaf 334 () .leaf) 335 () .leaf))) 336 () (.node (.node (.node (.node .leaf 337 () .leaf) 346 () (.node .leaf 348 () .leaf)) 356 () (.node (.node .leaf 357 () .leaf) 358 () .leaf)) 359 () (.node (.node (.node .leaf 360 () .leaf) 361 () .leaf) 362 () (.node (.node .leaf 363 () .leaf) 364 () .leaf)))))))
def BT.All {α : Type} (p : Nat × α → Prop) : BT α → Prop
  | .leaf => True
  | .node l k x r => l.All p ∧ p (k, x) ∧ r.All p
theorem lf {α : Type} {p : Nat × α → Prop} : BT.All p .leaf := trivial
theorem nd {α : Type} {p : Nat × α → Prop} {l r : BT α} {k : Nat} {x : α} (a : l.All p) (b : p (k, x)) (c : r.All p) : BT.All p (.node l k x r) := ⟨a, b, c⟩
theorem BT.all_mem {α : Type} {p : Nat × α → Prop} {y : Nat × α} : ∀ {b : BT α}, b.All p → y ∈ b.toL → p y
  | .leaf, _, h => by cases h
  | .node l k x r, ⟨h1, h2, h3⟩, h => by
    rw [BT.toL] at h
    rcases List.mem_append.1 h with h | h
    · exact BT.all_mem h1 h
    · rcases List.mem_cons.1 h with rfl | h
      · exact h2
      · exact BT.all_mem h3 h
noncomputable def T : Tab := { prog := Tryz.prog, und := look undB, inf := look infB, fn := fun f => (look fnB f).isSome, room := False }
theorem undOk : undB.All fun x => Tryz.prog.underlying x.1 = some x.2 := (nd (nd (nd (nd (nd (nd lf Tryz.underlying1 lf) Tryz.underlying2 lf) Tryz.underlying3 (nd (nd lf Tryz.underlying4 lf) Tryz.underlying5 lf)) Tryz.underlying9 (nd (nd (nd lf Tryz.underlying22 lf) Tryz.underlying24 lf) Tryz.underlying25 (nd (nd lf Tryz.underlying27 lf) Tryz.underlying28 lf))) Tryz.underlying32 (nd (nd (nd (nd lf Tryz.underlying34 lf) Tryz.underlying44 lf) Tryz.underlying46 (nd (nd lf Tryz.underlying64 lf) Tryz.underlying78 lf)) Tryz.underlying80 (nd (nd (nd lf Tryz.underlying88 lf) Tryz.underlying89 lf) Tryz.underlying91 (nd (nd lf Tryz.underlying100 lf) Tryz.underlying121 lf)))) Tryz.underlying124 (nd (nd (nd (nd (nd lf Tryz.underlying127 lf) Tryz.underlying146 lf) Tryz.underlying148 (nd (nd lf Tryz.underlying177 lf) Tryz.underlying182 lf)) Tryz.underlying184 (nd (nd (nd lf Tryz.underlying185 lf) Tryz.underlying191 lf) Tryz.underlying196 (nd (nd lf Tryz.underlying197 lf) Tryz.underlying199 lf))) Tryz.underlying210 (nd (nd (nd (nd lf Tryz.underlying225 lf) Tryz.underlying243 lf) Tryz.underlying247 (nd (nd lf Tryz.underlying260 lf) Tryz.underlying267 lf)) Tryz.underlying291 (nd (nd (nd lf Tryz.underlying293 lf) Tryz.underlying323 lf) Tryz.underlying327 (nd (nd lf Tryz.underlying328 lf) Tryz.underlying329 lf)))))
theorem infOk : infB.All fun x => ∃ i v, Tryz.prog.info? x.1 = some i ∧ i.zero = some v ∧ v.cells = x.2.1.toArray ∧ i.size = x.2.1.length ∧ i.bytes = x.2.2 := (nd (nd (nd (nd (nd (nd lf ⟨Tryz.t1, _, by kernel_rfl, rfl, rfl, rfl, rfl⟩ lf) ⟨Tryz.t2, _, by kernel_rfl, rfl, rfl, rfl, rfl⟩ lf) ⟨Tryz.t3, _, by kernel_rfl, rfl, rfl, rfl, rfl⟩ (nd (nd lf ⟨Tryz.t4, _, by kernel_rfl, rfl, rfl, rfl, rfl⟩ lf) ⟨Tryz.t5, _, by kernel_rfl, rfl, rfl, rfl, rfl⟩ lf)) ⟨Tryz.t9, _, by kernel_rfl, rfl, rfl, rfl, rfl⟩ (nd (nd (nd lf ⟨Tryz.t22, _, by kernel_rfl, rfl, rfl, rfl, rfl⟩ lf) ⟨Tryz.t24, _, by kernel_rfl, rfl, rfl, rfl, rfl⟩ lf) ⟨Tryz.t25, _, by kernel_rfl, rfl, rfl, rfl, rfl⟩ (nd (nd lf ⟨Tryz.t27, _, by kernel_rfl, rfl, rfl, rfl, rfl⟩ lf) ⟨Tryz.t28, _, by kernel_rfl, rfl, rfl, rfl, rfl⟩ lf))) ⟨Tryz.t32, _, by kernel_rfl, rfl, rfl, rfl, rfl⟩ (nd (nd (nd (nd lf ⟨Tryz.t34, _, by kernel_rfl, rfl, rfl, rfl, rfl⟩ lf) ⟨Tryz.t44, _, by kernel_rfl, rfl, rfl, rfl, rfl⟩ lf) ⟨Tryz.t46, _, by kernel_rfl, rfl, rfl, rfl, rfl⟩ (nd (nd lf ⟨Tryz.t64, _, by kernel_rfl, rfl, rfl, rfl, rfl⟩ lf) ⟨Tryz.t78, _, by kernel_rfl, rfl, rfl, rfl, rfl⟩ lf)) ⟨Tryz.t80, _, by kernel_rfl, rfl, rfl, rfl, rfl⟩ (nd (nd (nd lf ⟨Tryz.t88, _, by kernel_rfl, rfl, rfl, rfl, rfl⟩ lf) ⟨Tryz.t89, _, by kernel_rfl, rfl, rfl, rfl, rfl⟩ lf) ⟨Tryz.t91, _, by kernel_rfl, rfl, rfl, rfl, rfl⟩ (nd (nd lf ⟨Tryz.t100, _, by kernel_rfl, rfl, rfl, rfl, rfl⟩ lf) ⟨Tryz.t121, _, by kernel_rfl, rfl, rfl, rfl, rfl⟩ lf)))) ⟨Tryz.t124, _, by kernel_rfl, rfl, rfl, rfl, rfl⟩ (nd (nd (nd (nd (nd lf ⟨Tryz.t127, _, by kernel_rfl, rfl, rfl, rfl, rfl⟩ lf) ⟨Tryz.t146, _, by kernel_rfl, rfl, rfl, rfl, rfl⟩ lf) ⟨Tryz.t148, _, by kernel_rfl, rfl, rfl, rfl, rfl⟩ (nd (nd lf ⟨Tryz.t177, _, by kernel_rfl, rfl, rfl, rfl, rfl⟩ lf) ⟨Tryz.t182, _, by kernel_rfl, rfl, rfl, rfl, rfl⟩ lf)) ⟨Tryz.t184, _, by kernel_rfl, rfl, rfl, rfl, rfl⟩ (nd (nd (nd lf ⟨Tryz.t185, _, by kernel_rfl, rfl, rfl, rfl, rfl⟩ lf) ⟨Tryz.t191, _, by kernel_rfl, rfl, rfl, rfl, rfl⟩ lf) ⟨Tryz.t196, _, by kernel_rfl, rfl, rfl, rfl, rfl⟩ (nd (nd lf ⟨Tryz.t197, _, by kernel_rfl, rfl, rfl, rfl, rfl⟩ lf) ⟨Tryz.t199, _, by kernel_rfl, rfl, rfl, rfl, rfl⟩ lf))) ⟨Tryz.t210, _, by kernel_rfl, rfl, rfl, rfl, rfl⟩ (nd (nd (nd (nd lf ⟨Tryz.t225, _, by kernel_rfl, rfl, rfl, rfl, rfl⟩ lf) ⟨Tryz.t247, _, by kernel_rfl, rfl, rfl, rfl, rfl⟩ lf) ⟨Tryz.t260, _, by kernel_rfl, rfl, rfl, rfl, rfl⟩ (nd (nd lf ⟨Tryz.t267, _, by kernel_rfl, rfl, rfl, rfl, rfl⟩ lf) ⟨Tryz.t291, _, by kernel_rfl, rfl, rfl, rfl, rfl⟩ lf)) ⟨Tryz.t293, _, by kernel_rfl, rfl, rfl, rfl, rfl⟩ (nd (nd (nd lf ⟨Tryz.t309, _, by kernel_rfl, rfl, rfl, rfl, rfl⟩ lf) ⟨Tryz.t323, _, by kernel_rfl, rfl, rfl, rfl, rfl⟩ lf) ⟨Tryz.t327, _, by kernel_rfl, rfl, rfl, rfl, rfl⟩ (nd lf ⟨Tryz.t329, _, by kernel_rfl, rfl, rfl, rfl, rfl⟩ lf)))))
theorem fnOk : fnB.All fun x => ∀ args w, (callFunc x.1 args).run Tryz.prog w = .ok (.enter x.1 args) w := (nd (nd (nd (nd (nd (nd (nd (nd lf Tryz.call3 lf) Tryz.call10 (nd lf Tryz.call17 lf)) Tryz.call18 (nd (nd lf Tryz.call19 lf) Tryz.call20 lf)) Tryz.call21 (nd (nd (nd lf Tryz.call24 lf) Tryz.call31 (nd lf Tryz.call32 lf)) Tryz.call36 (nd (nd lf Tryz.call39 lf) Tryz.call48 lf))) Tryz.call50 (nd (nd (nd (nd lf Tryz.call52 lf) Tryz.call55 (nd lf Tryz.call56 lf)) Tryz.call57 (nd (nd lf Tryz.call58 lf) Tryz.call59 lf)) Tryz.call60 (nd (nd (nd lf Tryz.call61 lf) Tryz.call62 lf) Tryz.call65 (nd (nd lf Tryz.call66 lf) Tryz.call67 lf)))) Tryz.call68 (nd (nd (nd (nd (nd lf Tryz.call69 lf) Tryz.call71 (nd lf Tryz.call73 lf)) Tryz.call77 (nd (nd lf Tryz.call78 lf) Tryz.call79 lf)) Tryz.call83 (nd (nd (nd lf Tryz.call84 lf) Tryz.call85 (nd lf Tryz.call86 lf)) Tryz.call87 (nd (nd lf Tryz.call89 lf) Tryz.call95 lf))) Tryz.call96 (nd (nd (nd (nd lf Tryz.call97 lf) Tryz.call98 (nd lf Tryz.call99 lf)) Tryz.call100 (nd (nd lf Tryz.call101 lf) Tryz.call108 lf)) Tryz.call111 (nd (nd (nd lf Tryz.call112 lf) Tryz.call113 lf) Tryz.call114 (nd (nd lf Tryz.call115 lf) Tryz.call116 lf))))) Tryz.call117 (nd (nd (nd (nd (nd (nd lf Tryz.call118 lf) Tryz.call119 (nd lf Tryz.call120 lf)) Tryz.call121 (nd (nd lf Tryz.call122 lf) Tryz.call123 lf)) Tryz.call124 (nd (nd (nd lf Tryz.call126 lf) Tryz.call127 (nd lf Tryz.call128 lf)) Tryz.call129 (nd (nd lf Tryz.call130 lf) Tryz.call131 lf))) Tryz.call132 (nd (nd (nd (nd lf Tryz.call133 lf) Tryz.call134 (nd lf Tryz.call135 lf)) Tryz.call136 (nd (nd lf Tryz.call137 lf) Tryz.call138 lf)) Tryz.call140 (nd (nd (nd lf Tryz.call143 lf) Tryz.call144 lf) Tryz.call145 (nd (nd lf Tryz.call147 lf) Tryz.call150 lf)))) Tryz.call151 (nd (nd (nd (nd (nd lf Tryz.call152 lf) Tryz.call154 (nd lf Tryz.call155 lf)) Tryz.call156 (nd (nd lf Tryz.call157 lf) Tryz.call158 lf)) Tryz.call159 (nd (nd (nd lf Tryz.call160 lf) Tryz.call167 lf) Tryz.call168 (nd (nd lf Tryz.call169 lf) Tryz.call170 lf))) Tryz.call171 (nd (nd (nd (nd lf Tryz.call172 lf) Tryz.call173 (nd lf Tryz.call174 lf)) Tryz.call175 (nd (nd lf Tryz.call176 lf) Tryz.call177 lf)) Tryz.call178 (nd (nd (nd lf Tryz.call179 lf) Tryz.call189 lf) Tryz.call190 (nd (nd lf Tryz.call195 lf) Tryz.call196 lf)))))) Tryz.call197 (nd (nd (nd (nd (nd (nd (nd lf Tryz.call198 lf) Tryz.call199 (nd lf Tryz.call200 lf)) Tryz.call201 (nd (nd lf Tryz.call202 lf) Tryz.call203 lf)) Tryz.call204 (nd (nd (nd lf Tryz.call205 lf) Tryz.call206 (nd lf Tryz.call207 lf)) Tryz.call208 (nd (nd lf Tryz.call209 lf) Tryz.call210 lf))) Tryz.call211 (nd (nd (nd (nd lf Tryz.call212 lf) Tryz.call213 (nd lf Tryz.call214 lf)) Tryz.call215 (nd (nd lf Tryz.call216 lf) Tryz.call217 lf)) Tryz.call218 (nd (nd (nd lf Tryz.call219 lf) Tryz.call220 lf) Tryz.call223 (nd (nd lf Tryz.call224 lf) Tryz.call225 lf)))) Tryz.call226 (nd (nd (nd (nd (nd lf Tryz.call227 lf) Tryz.call228 (nd lf Tryz.call229 lf)) Tryz.call230 (nd (nd lf Tryz.call231 lf) Tryz.call232 lf)) Tryz.call233 (nd (nd (nd lf Tryz.call234 lf) Tryz.call235 (nd lf Tryz.call236 lf)) Tryz.call237 (nd (nd lf Tryz.call238 lf) Tryz.call242 lf))) Tryz.call243 (nd (nd (nd (nd lf Tryz.call244 lf) Tryz.call245 (nd lf Tryz.call246 lf)) Tryz.call247 (nd (nd lf Tryz.call248 lf) Tryz.call249 lf)) Tryz.call250 (nd (nd (nd lf Tryz.call251 lf) Tryz.call257 lf) Tryz.call258 (nd (nd lf Tryz.call259 lf) Tryz.call266 lf))))) Tryz.call267 (nd (nd (nd (nd (nd (nd lf Tryz.call268 lf) Tryz.call269 (nd lf Tryz.call270 lf)) Tryz.call271 (nd (nd lf Tryz.call272 lf) Tryz.call275 lf)) Tryz.call276 (nd (nd (nd lf Tryz.call277 lf) Tryz.call278 (nd lf Tryz.call279 lf)) Tryz.call280 (nd (nd lf Tryz.call281 lf) Tryz.call282 lf))) Tryz.call283 (nd (nd (nd (nd lf Tryz.call289 lf) Tryz.call290 (nd lf Tryz.call291 lf)) Tryz.call292 (nd (nd lf Tryz.call293 lf) Tryz.call294 lf)) Tryz.call295 (nd (nd (nd lf Tryz.call296 lf) Tryz.call306 lf) Tryz.call307 (nd (nd lf Tryz.call308 lf) Tryz.call309 lf)))) Tryz.call314 (nd (nd (nd (nd (nd lf Tryz.call315 lf) Tryz.call318 (nd lf Tryz.call319 lf)) Tryz.call320 (nd (nd lf Tryz.call321 lf) Tryz.call322 lf)) Tryz.call323 (nd (nd (nd lf Tryz.call324 lf) Tryz.call325 lf) Tryz.call333 (nd (nd lf Tryz.call334 lf) Tryz.call335 lf))) Tryz.call336 (nd (nd (nd (nd lf Tryz.call337 lf) Tryz.call346 (nd lf Tryz.call348 lf)) Tryz.call356 (nd (nd lf Tryz.call357 lf) Tryz.call358 lf)) Tryz.call359 (nd (nd (nd lf Tryz.call360 lf) Tryz.call361 lf) Tryz.call362 (nd (nd lf Tryz.call363 lf) Tryz.call364 lf)))))))
theorem mixedOk : Tryz.prog.follows .mixedOrders = true := by kernel_rfl
theorem ok : T.Ok where
  und t d h := BT.all_mem (y := (t, d)) undOk (look_mem h)
  inf t z n h := BT.all_mem (y := (t, (z, n))) infOk (look_mem h)
  fn f h args w := by
    obtain ⟨x, hx⟩ := Option.isSome_iff_exists.1 (show (look fnB f).isSome = true from h)
    exact BT.all_mem fnOk (look_mem hx) args w
  mixed := mixedOk
abbrev F.law04_ExprSimplify : Nat := 3
theorem D.law04_ExprSimplify : T.prog.funcs[F.law04_ExprSimplify]? = some Tryz.f3 := Tryz.func3
abbrev F.law04_ExprSimpleValue : Nat := 10
theorem D.law04_ExprSimpleValue : T.prog.funcs[F.law04_ExprSimpleValue]? = some Tryz.f10 := Tryz.func10
abbrev F.expr_Simplify : Nat := 17
theorem D.expr_Simplify : T.prog.funcs[F.expr_Simplify]? = some Tryz.f17 := Tryz.func17
abbrev F.ref04_Simplify : Nat := 18
theorem D.ref04_Simplify : T.prog.funcs[F.ref04_Simplify]? = some Tryz.f18 := Tryz.func18
abbrev F.law04_agrees : Nat := 19
theorem D.law04_agrees : T.prog.funcs[F.law04_agrees]? = some Tryz.f19 := Tryz.func19
abbrev F.law04_sane : Nat := 20
theorem D.law04_sane : T.prog.funcs[F.law04_sane]? = some Tryz.f20 := Tryz.func20
abbrev F.expr_Value : Nat := 21
theorem D.expr_Value : T.prog.funcs[F.expr_Value]? = some Tryz.f21 := Tryz.func21
abbrev F.ref01_Same : Nat := 24
theorem D.ref01_Same : T.prog.funcs[F.ref01_Same]? = some Tryz.f24 := Tryz.func24
abbrev F.ref01_Sgn : Nat := 31
theorem D.ref01_Sgn : T.prog.funcs[F.ref01_Sgn]? = some Tryz.f31 := Tryz.func31
abbrev F.ref01_Of : Nat := 32
theorem D.ref01_Of : T.prog.funcs[F.ref01_Of]? = some Tryz.f32 := Tryz.func32
abbrev F.ref04_Valid : Nat := 36
theorem D.ref04_Valid : T.prog.funcs[F.ref04_Valid]? = some Tryz.f36 := Tryz.func36
abbrev F.ref01_Cmp : Nat := 39
theorem D.ref01_Cmp : T.prog.funcs[F.ref01_Cmp]? = some Tryz.f39 := Tryz.func39
abbrev F.expr_Valid : Nat := 48
theorem D.expr_Valid : T.prog.funcs[F.expr_Valid]? = some Tryz.f48 := Tryz.func48
abbrev F.expr_Parse : Nat := 50
theorem D.expr_Parse : T.prog.funcs[F.expr_Parse]? = some Tryz.f50 := Tryz.func50
abbrev F.expr_Print : Nat := 52
theorem D.expr_Print : T.prog.funcs[F.expr_Print]? = some Tryz.f52 := Tryz.func52
abbrev F.ref04_Same : Nat := 55
theorem D.ref04_Same : T.prog.funcs[F.ref04_Same]? = some Tryz.f55 := Tryz.func55
abbrev F.expr_clone : Nat := 56
theorem D.expr_clone : T.prog.funcs[F.expr_clone]? = some Tryz.f56 := Tryz.func56
abbrev F.expr_simplified : Nat := 57
theorem D.expr_simplified : T.prog.funcs[F.expr_simplified]? = some Tryz.f57 := Tryz.func57
abbrev F.ref04_Simple : Nat := 58
theorem D.ref04_Simple : T.prog.funcs[F.ref04_Simple]? = some Tryz.f58 := Tryz.func58
abbrev F.law04_nothing : Nat := 59
theorem D.law04_nothing : T.prog.funcs[F.law04_nothing]? = some Tryz.f59 := Tryz.func59
abbrev F.expr_IsName : Nat := 60
theorem D.expr_IsName : T.prog.funcs[F.expr_IsName]? = some Tryz.f60 := Tryz.func60
abbrev F.number_Canon : Nat := 61
theorem D.number_Canon : T.prog.funcs[F.number_Canon]? = some Tryz.f61 := Tryz.func61
abbrev F.expr_value : Nat := 62
theorem D.expr_value : T.prog.funcs[F.expr_value]? = some Tryz.f62 := Tryz.func62
abbrev F.ref01_Rat : Nat := 65
theorem D.ref01_Rat : T.prog.funcs[F.ref01_Rat]? = some Tryz.f65 := Tryz.func65
abbrev F.word_Read : Nat := 66
theorem D.word_Read : T.prog.funcs[F.word_Read]? = some Tryz.f66 := Tryz.func66
abbrev F.expr_lit : Nat := 67
theorem D.expr_lit : T.prog.funcs[F.expr_lit]? = some Tryz.f67 := Tryz.func67
abbrev F.ref01_Large : Nat := 68
theorem D.ref01_Large : T.prog.funcs[F.ref01_Large]? = some Tryz.f68 := Tryz.func68
abbrev F.ref04_lit : Nat := 69
theorem D.ref04_lit : T.prog.funcs[F.ref04_lit]? = some Tryz.f69 := Tryz.func69
abbrev F.expr_checked : Nat := 71
theorem D.expr_checked : T.prog.funcs[F.expr_checked]? = some Tryz.f71 := Tryz.func71
abbrev F.ref04_IsName : Nat := 73
theorem D.ref04_IsName : T.prog.funcs[F.ref04_IsName]? = some Tryz.f73 := Tryz.func73
abbrev F.ref01_words : Nat := 77
theorem D.ref01_words : T.prog.funcs[F.ref01_words]? = some Tryz.f77 := Tryz.func77
abbrev F.ref01_NatOf : Nat := 78
theorem D.ref01_NatOf : T.prog.funcs[F.ref01_NatOf]? = some Tryz.f78 := Tryz.func78
abbrev F.ref01_Make : Nat := 79
theorem D.ref01_Make : T.prog.funcs[F.ref01_Make]? = some Tryz.f79 := Tryz.func79
abbrev F.ref04_walk : Nat := 83
theorem D.ref04_walk : T.prog.funcs[F.ref04_walk]? = some Tryz.f83 := Tryz.func83
abbrev F.ref01_Diff : Nat := 84
theorem D.ref01_Diff : T.prog.funcs[F.ref01_Diff]? = some Tryz.f84 := Tryz.func84
abbrev F.ref01_Sum : Nat := 85
theorem D.ref01_Sum : T.prog.funcs[F.ref01_Sum]? = some Tryz.f85 := Tryz.func85
abbrev F.ref01_Prod : Nat := 86
theorem D.ref01_Prod : T.prog.funcs[F.ref01_Prod]? = some Tryz.f86 := Tryz.func86
abbrev F.ref01_Div : Nat := 87
theorem D.ref01_Div : T.prog.funcs[F.ref01_Div]? = some Tryz.f87 := Tryz.func87
abbrev F.expr_count : Nat := 89
theorem D.expr_count : T.prog.funcs[F.expr_count]? = some Tryz.f89 := Tryz.func89
abbrev F.syntax_Scan : Nat := 95
theorem D.syntax_Scan : T.prog.funcs[F.syntax_Scan]? = some Tryz.f95 := Tryz.func95
abbrev F.syntax_New : Nat := 96
theorem D.syntax_New : T.prog.funcs[F.syntax_New]? = some Tryz.f96 := Tryz.func96
abbrev F.syntax_Run : Nat := 97
abbrev F.expr_Parse_1 : Nat := 98
theorem D.expr_Parse_1 : T.prog.funcs[F.expr_Parse_1]? = some Tryz.f98 := Tryz.func98
abbrev F.psyntax_Parser_Expr : Nat := 99
theorem D.psyntax_Parser_Expr : T.prog.funcs[F.psyntax_Parser_Expr]? = some Tryz.f99 := Tryz.func99
abbrev F.psyntax_Parser_Done : Nat := 100
theorem D.psyntax_Parser_Done : T.prog.funcs[F.psyntax_Parser_Done]? = some Tryz.f100 := Tryz.func100
abbrev F.psyntax_Parser_Check : Nat := 101
theorem D.psyntax_Parser_Check : T.prog.funcs[F.psyntax_Parser_Check]? = some Tryz.f101 := Tryz.func101
abbrev F.expr_text : Nat := 108
theorem D.expr_text : T.prog.funcs[F.expr_text]? = some Tryz.f108 := Tryz.func108
abbrev F.expr_negated : Nat := 111
theorem D.expr_negated : T.prog.funcs[F.expr_negated]? = some Tryz.f111 := Tryz.func111
abbrev F.expr_raised : Nat := 112
theorem D.expr_raised : T.prog.funcs[F.expr_raised]? = some Tryz.f112 := Tryz.func112
abbrev F.expr_combined : Nat := 113
theorem D.expr_combined : T.prog.funcs[F.expr_combined]? = some Tryz.f113 := Tryz.func113
abbrev F.ref04_opposite : Nat := 114
theorem D.ref04_opposite : T.prog.funcs[F.ref04_opposite]? = some Tryz.f114 := Tryz.func114
abbrev F.ref04_sum : Nat := 115
theorem D.ref04_sum : T.prog.funcs[F.ref04_sum]? = some Tryz.f115 := Tryz.func115
abbrev F.ref04_product : Nat := 116
theorem D.ref04_product : T.prog.funcs[F.ref04_product]? = some Tryz.f116 := Tryz.func116
abbrev F.ref04_quotient : Nat := 117
theorem D.ref04_quotient : T.prog.funcs[F.ref04_quotient]? = some Tryz.f117 := Tryz.func117
abbrev F.ref04_power : Nat := 118
theorem D.ref04_power : T.prog.funcs[F.ref04_power]? = some Tryz.f118 := Tryz.func118
abbrev F.syntax_IsName : Nat := 119
theorem D.syntax_IsName : T.prog.funcs[F.syntax_IsName]? = some Tryz.f119 := Tryz.func119
abbrev F.number_one : Nat := 120
theorem D.number_one : T.prog.funcs[F.number_one]? = some Tryz.f120 := Tryz.func120
abbrev F.number_Canon_1 : Nat := 121
theorem D.number_Canon_1 : T.prog.funcs[F.number_Canon_1]? = some Tryz.f121 := Tryz.func121
abbrev F.number_Sign : Nat := 122
theorem D.number_Sign : T.prog.funcs[F.number_Sign]? = some Tryz.f122 := Tryz.func122
abbrev F.expr_unary : Nat := 123
theorem D.expr_unary : T.prog.funcs[F.expr_unary]? = some Tryz.f123 := Tryz.func123
abbrev F.expr_binary : Nat := 124
theorem D.expr_binary : T.prog.funcs[F.expr_binary]? = some Tryz.f124 := Tryz.func124
abbrev F.ref01_Over : Nat := 126
theorem D.ref01_Over : T.prog.funcs[F.ref01_Over]? = some Tryz.f126 := Tryz.func126
abbrev F.ref01_list : Nat := 127
theorem D.ref01_list : T.prog.funcs[F.ref01_list]? = some Tryz.f127 := Tryz.func127
abbrev F.ref01_Q_whole : Nat := 128
theorem D.ref01_Q_whole : T.prog.funcs[F.ref01_Q_whole]? = some Tryz.f128 := Tryz.func128
abbrev F.word_Of : Nat := 129
theorem D.word_Of : T.prog.funcs[F.word_Of]? = some Tryz.f129 := Tryz.func129
abbrev F.word_Nat_Zero : Nat := 130
theorem D.word_Nat_Zero : T.prog.funcs[F.word_Nat_Zero]? = some Tryz.f130 := Tryz.func130
abbrev F.word_Small : Nat := 131
theorem D.word_Small : T.prog.funcs[F.word_Small]? = some Tryz.f131 := Tryz.func131
abbrev F.word_Reduce : Nat := 132
theorem D.word_Reduce : T.prog.funcs[F.word_Reduce]? = some Tryz.f132 := Tryz.func132
abbrev F.word_Frac_Fits : Nat := 133
theorem D.word_Frac_Fits : T.prog.funcs[F.word_Frac_Fits]? = some Tryz.f133 := Tryz.func133
abbrev F.word_Frac_Give : Nat := 134
theorem D.word_Frac_Give : T.prog.funcs[F.word_Frac_Give]? = some Tryz.f134 := Tryz.func134
abbrev F.expr_node : Nat := 135
theorem D.expr_node : T.prog.funcs[F.expr_node]? = some Tryz.f135 := Tryz.func135
abbrev F.ref04_one : Nat := 136
theorem D.ref04_one : T.prog.funcs[F.ref04_one]? = some Tryz.f136 := Tryz.func136
abbrev F.ref04_num : Nat := 137
theorem D.ref04_num : T.prog.funcs[F.ref04_num]? = some Tryz.f137 := Tryz.func137
abbrev F.ref01_Opp : Nat := 138
theorem D.ref01_Opp : T.prog.funcs[F.ref01_Opp]? = some Tryz.f138 := Tryz.func138
abbrev F.expr_whole : Nat := 140
theorem D.expr_whole : T.prog.funcs[F.expr_whole]? = some Tryz.f140 := Tryz.func140
abbrev F.ref04_word : Nat := 143
theorem D.ref04_word : T.prog.funcs[F.ref04_word]? = some Tryz.f143 := Tryz.func143
abbrev F.ref04_reserved : Nat := 144
theorem D.ref04_reserved : T.prog.funcs[F.ref04_reserved]? = some Tryz.f144 := Tryz.func144
abbrev F.ref01_Int : Nat := 145
theorem D.ref01_Int : T.prog.funcs[F.ref01_Int]? = some Tryz.f145 := Tryz.func145
abbrev F.ref04_two : Nat := 147
theorem D.ref04_two : T.prog.funcs[F.ref04_two]? = some Tryz.f147 := Tryz.func147
abbrev F.ref01_trim : Nat := 150
theorem D.ref01_trim : T.prog.funcs[F.ref01_trim]? = some Tryz.f150 := Tryz.func150
abbrev F.ref01_NatGcd : Nat := 151
theorem D.ref01_NatGcd : T.prog.funcs[F.ref01_NatGcd]? = some Tryz.f151 := Tryz.func151
abbrev F.ref01_NatDiv : Nat := 152
theorem D.ref01_NatDiv : T.prog.funcs[F.ref01_NatDiv]? = some Tryz.f152 := Tryz.func152
abbrev F.ref04_node : Nat := 154
theorem D.ref04_node : T.prog.funcs[F.ref04_node]? = some Tryz.f154 := Tryz.func154
abbrev F.ref01_NatMul : Nat := 155
theorem D.ref01_NatMul : T.prog.funcs[F.ref01_NatMul]? = some Tryz.f155 := Tryz.func155
abbrev F.ref01_Q_den : Nat := 156
theorem D.ref01_Q_den : T.prog.funcs[F.ref01_Q_den]? = some Tryz.f156 := Tryz.func156
abbrev F.ref01_NatAdd : Nat := 157
theorem D.ref01_NatAdd : T.prog.funcs[F.ref01_NatAdd]? = some Tryz.f157 := Tryz.func157
abbrev F.ref01_NatCmp : Nat := 158
theorem D.ref01_NatCmp : T.prog.funcs[F.ref01_NatCmp]? = some Tryz.f158 := Tryz.func158
abbrev F.ref01_NatSub : Nat := 159
theorem D.ref01_NatSub : T.prog.funcs[F.ref01_NatSub]? = some Tryz.f159 := Tryz.func159
abbrev F.expr_fields : Nat := 160
theorem D.expr_fields : T.prog.funcs[F.expr_fields]? = some Tryz.f160 := Tryz.func160
abbrev F.syntax_word : Nat := 167
theorem D.syntax_word : T.prog.funcs[F.syntax_word]? = some Tryz.f167 := Tryz.func167
abbrev F.elem_Find : Nat := 168
theorem D.elem_Find : T.prog.funcs[F.elem_Find]? = some Tryz.f168 := Tryz.func168
abbrev F.syntax_Reserved : Nat := 169
theorem D.syntax_Reserved : T.prog.funcs[F.syntax_Reserved]? = some Tryz.f169 := Tryz.func169
abbrev F.syntax_number : Nat := 170
theorem D.syntax_number : T.prog.funcs[F.syntax_number]? = some Tryz.f170 := Tryz.func170
abbrev F.strings_HasPrefix : Nat := 171
theorem D.strings_HasPrefix : T.prog.funcs[F.strings_HasPrefix]? = some Tryz.f171 := Tryz.func171
abbrev F.syntax_Run_1 : Nat := 172
abbrev F.psyntax_Parser_term : Nat := 173
theorem D.psyntax_Parser_term : T.prog.funcs[F.psyntax_Parser_term]? = some Tryz.f173 := Tryz.func173
abbrev F.psyntax_Parser_Accept : Nat := 174
theorem D.psyntax_Parser_Accept : T.prog.funcs[F.psyntax_Parser_Accept]? = some Tryz.f174 := Tryz.func174
abbrev F.syntax_node : Nat := 175
theorem D.syntax_node : T.prog.funcs[F.syntax_node]? = some Tryz.f175 := Tryz.func175
abbrev F.psyntax_Parser_Fail : Nat := 176
theorem D.psyntax_Parser_Fail : T.prog.funcs[F.psyntax_Parser_Fail]? = some Tryz.f176 := Tryz.func176
abbrev F.strings_Cut : Nat := 177
theorem D.strings_Cut : T.prog.funcs[F.strings_Cut]? = some Tryz.f177 := Tryz.func177
abbrev F.strings_Trim : Nat := 178
theorem D.strings_Trim : T.prog.funcs[F.strings_Trim]? = some Tryz.f178 := Tryz.func178
abbrev F.number_Parse : Nat := 179
theorem D.number_Parse : T.prog.funcs[F.number_Parse]? = some Tryz.f179 := Tryz.func179
abbrev F.expr_write : Nat := 189
theorem D.expr_write : T.prog.funcs[F.expr_write]? = some Tryz.f189 := Tryz.func189
abbrev F.pstrings_Builder_String : Nat := 190
theorem D.pstrings_Builder_String : T.prog.funcs[F.pstrings_Builder_String]? = some Tryz.f190 := Tryz.func190
abbrev F.expr_literal : Nat := 195
theorem D.expr_literal : T.prog.funcs[F.expr_literal]? = some Tryz.f195 := Tryz.func195
abbrev F.word_Frac_Opposite : Nat := 196
theorem D.word_Frac_Opposite : T.prog.funcs[F.word_Frac_Opposite]? = some Tryz.f196 := Tryz.func196
abbrev F.word_Frac_Sign : Nat := 197
theorem D.word_Frac_Sign : T.prog.funcs[F.word_Frac_Sign]? = some Tryz.f197 := Tryz.func197
abbrev F.word_Frac_Inverse : Nat := 198
theorem D.word_Frac_Inverse : T.prog.funcs[F.word_Frac_Inverse]? = some Tryz.f198 := Tryz.func198
abbrev F.word_Frac_Pow : Nat := 199
theorem D.word_Frac_Pow : T.prog.funcs[F.word_Frac_Pow]? = some Tryz.f199 := Tryz.func199
abbrev F.expr_operandOf : Nat := 200
theorem D.expr_operandOf : T.prog.funcs[F.expr_operandOf]? = some Tryz.f200 := Tryz.func200
abbrev F.expr_fold : Nat := 201
theorem D.expr_fold : T.prog.funcs[F.expr_fold]? = some Tryz.f201 := Tryz.func201
abbrev F.expr_added : Nat := 202
theorem D.expr_added : T.prog.funcs[F.expr_added]? = some Tryz.f202 := Tryz.func202
abbrev F.expr_subtracted : Nat := 203
theorem D.expr_subtracted : T.prog.funcs[F.expr_subtracted]? = some Tryz.f203 := Tryz.func203
abbrev F.expr_multiplied : Nat := 204
theorem D.expr_multiplied : T.prog.funcs[F.expr_multiplied]? = some Tryz.f204 := Tryz.func204
abbrev F.expr_operand_equals : Nat := 205
theorem D.expr_operand_equals : T.prog.funcs[F.expr_operand_equals]? = some Tryz.f205 := Tryz.func205
abbrev F.ref04_literal : Nat := 206
theorem D.ref04_literal : T.prog.funcs[F.ref04_literal]? = some Tryz.f206 := Tryz.func206
abbrev F.ref04_made : Nat := 207
theorem D.ref04_made : T.prog.funcs[F.ref04_made]? = some Tryz.f207 := Tryz.func207
abbrev F.ref04_is : Nat := 208
theorem D.ref04_is : T.prog.funcs[F.ref04_is]? = some Tryz.f208 := Tryz.func208
abbrev F.ref01_Power : Nat := 209
theorem D.ref01_Power : T.prog.funcs[F.ref01_Power]? = some Tryz.f209 := Tryz.func209
abbrev F.expr_done : Nat := 210
theorem D.expr_done : T.prog.funcs[F.expr_done]? = some Tryz.f210 := Tryz.func210
abbrev F.number_Neg : Nat := 211
theorem D.number_Neg : T.prog.funcs[F.number_Neg]? = some Tryz.f211 := Tryz.func211
abbrev F.number_Pow : Nat := 212
theorem D.number_Pow : T.prog.funcs[F.number_Pow]? = some Tryz.f212 := Tryz.func212
abbrev F.number_Abs : Nat := 213
theorem D.number_Abs : T.prog.funcs[F.number_Abs]? = some Tryz.f213 := Tryz.func213
abbrev F.number_Root : Nat := 214
theorem D.number_Root : T.prog.funcs[F.number_Root]? = some Tryz.f214 := Tryz.func214
abbrev F.elem_Exact : Nat := 215
theorem D.elem_Exact : T.prog.funcs[F.elem_Exact]? = some Tryz.f215 := Tryz.func215
abbrev F.number_Add : Nat := 216
theorem D.number_Add : T.prog.funcs[F.number_Add]? = some Tryz.f216 := Tryz.func216
abbrev F.number_Sub : Nat := 217
theorem D.number_Sub : T.prog.funcs[F.number_Sub]? = some Tryz.f217 := Tryz.func217
abbrev F.number_Mul : Nat := 218
theorem D.number_Mul : T.prog.funcs[F.number_Mul]? = some Tryz.f218 := Tryz.func218
abbrev F.number_Div : Nat := 219
theorem D.number_Div : T.prog.funcs[F.number_Div]? = some Tryz.f219 := Tryz.func219
abbrev F.number_Compare : Nat := 220
theorem D.number_Compare : T.prog.funcs[F.number_Compare]? = some Tryz.f220 := Tryz.func220
abbrev F.word_Nat_Twos : Nat := 223
theorem D.word_Nat_Twos : T.prog.funcs[F.word_Nat_Twos]? = some Tryz.f223 := Tryz.func223
abbrev F.word_Nat_Shr : Nat := 224
theorem D.word_Nat_Shr : T.prog.funcs[F.word_Nat_Shr]? = some Tryz.f224 := Tryz.func224
abbrev F.word_Nat_Bits : Nat := 225
theorem D.word_Nat_Bits : T.prog.funcs[F.word_Nat_Bits]? = some Tryz.f225 := Tryz.func225
abbrev F.word_Nat_GCD : Nat := 226
theorem D.word_Nat_GCD : T.prog.funcs[F.word_Nat_GCD]? = some Tryz.f226 := Tryz.func226
abbrev F.word_Nat_One : Nat := 227
theorem D.word_Nat_One : T.prog.funcs[F.word_Nat_One]? = some Tryz.f227 := Tryz.func227
abbrev F.word_Nat_Div : Nat := 228
theorem D.word_Nat_Div : T.prog.funcs[F.word_Nat_Div]? = some Tryz.f228 := Tryz.func228
abbrev F.slices_Clone_of__of_uint32_uint32 : Nat := 229
theorem D.slices_Clone_of__of_uint32_uint32 : T.prog.funcs[F.slices_Clone_of__of_uint32_uint32]? = some Tryz.f229 := Tryz.func229
abbrev F.word_Int : Nat := 230
theorem D.word_Int : T.prog.funcs[F.word_Int]? = some Tryz.f230 := Tryz.func230
abbrev F.ref01_small : Nat := 231
theorem D.ref01_small : T.prog.funcs[F.ref01_small]? = some Tryz.f231 := Tryz.func231
abbrev F.ref01_NatShl : Nat := 232
theorem D.ref01_NatShl : T.prog.funcs[F.ref01_NatShl]? = some Tryz.f232 := Tryz.func232
abbrev F.ref01_digit : Nat := 233
theorem D.ref01_digit : T.prog.funcs[F.ref01_digit]? = some Tryz.f233 := Tryz.func233
abbrev F.ref01_NatShr : Nat := 234
theorem D.ref01_NatShr : T.prog.funcs[F.ref01_NatShr]? = some Tryz.f234 := Tryz.func234
abbrev F.ref04_kids : Nat := 235
theorem D.ref04_kids : T.prog.funcs[F.ref04_kids]? = some Tryz.f235 := Tryz.func235
abbrev F.ref04_argument : Nat := 236
theorem D.ref04_argument : T.prog.funcs[F.ref04_argument]? = some Tryz.f236 := Tryz.func236
abbrev F.ref01_Zero : Nat := 237
theorem D.ref01_Zero : T.prog.funcs[F.ref01_Zero]? = some Tryz.f237 := Tryz.func237
abbrev F.expr_kids : Nat := 238
theorem D.expr_kids : T.prog.funcs[F.expr_kids]? = some Tryz.f238 := Tryz.func238
abbrev F.syntax_letter : Nat := 242
theorem D.syntax_letter : T.prog.funcs[F.syntax_letter]? = some Tryz.f242 := Tryz.func242
abbrev F.syntax_digit : Nat := 243
theorem D.syntax_digit : T.prog.funcs[F.syntax_digit]? = some Tryz.f243 := Tryz.func243
abbrev F.elem_names : Nat := 244
theorem D.elem_names : T.prog.funcs[F.elem_names]? = some Tryz.f244 := Tryz.func244
abbrev F.syntax_digits : Nat := 245
theorem D.syntax_digits : T.prog.funcs[F.syntax_digits]? = some Tryz.f245 := Tryz.func245
abbrev F.internal_stringslite_HasPrefix : Nat := 246
theorem D.internal_stringslite_HasPrefix : T.prog.funcs[F.internal_stringslite_HasPrefix]? = some Tryz.f246 := Tryz.func246
abbrev F.psyntax_Parser_factor : Nat := 247
theorem D.psyntax_Parser_factor : T.prog.funcs[F.psyntax_Parser_factor]? = some Tryz.f247 := Tryz.func247
abbrev F.psyntax_Parser_At : Nat := 248
theorem D.psyntax_Parser_At : T.prog.funcs[F.psyntax_Parser_At]? = some Tryz.f248 := Tryz.func248
abbrev F.internal_stringslite_Cut : Nat := 249
theorem D.internal_stringslite_Cut : T.prog.funcs[F.internal_stringslite_Cut]? = some Tryz.f249 := Tryz.func249
abbrev F.strings_trimLeftByte : Nat := 250
theorem D.strings_trimLeftByte : T.prog.funcs[F.strings_trimLeftByte]? = some Tryz.f250 := Tryz.func250
abbrev F.strings_trimRightByte : Nat := 251
theorem D.strings_trimRightByte : T.prog.funcs[F.strings_trimRightByte]? = some Tryz.f251 := Tryz.func251
abbrev F.number_run : Nat := 257
theorem D.number_run : T.prog.funcs[F.number_run]? = some Tryz.f257 := Tryz.func257
abbrev F.number_natural : Nat := 258
theorem D.number_natural : T.prog.funcs[F.number_natural]? = some Tryz.f258 := Tryz.func258
abbrev F.word_Nat_Pow : Nat := 259
theorem D.word_Nat_Pow : T.prog.funcs[F.word_Nat_Pow]? = some Tryz.f259 := Tryz.func259
abbrev F.ref01_NatPow : Nat := 266
theorem D.ref01_NatPow : T.prog.funcs[F.ref01_NatPow]? = some Tryz.f266 := Tryz.func266
abbrev F.number_Format : Nat := 267
theorem D.number_Format : T.prog.funcs[F.number_Format]? = some Tryz.f267 := Tryz.func267
abbrev F.pstrings_Builder_WriteString : Nat := 268
theorem D.pstrings_Builder_WriteString : T.prog.funcs[F.pstrings_Builder_WriteString]? = some Tryz.f268 := Tryz.func268
abbrev F.expr_place : Nat := 269
theorem D.expr_place : T.prog.funcs[F.expr_place]? = some Tryz.f269 := Tryz.func269
abbrev F.expr_infix : Nat := 270
theorem D.expr_infix : T.prog.funcs[F.expr_infix]? = some Tryz.f270 := Tryz.func270
abbrev F.strconv_Itoa : Nat := 271
abbrev F.expr_list : Nat := 272
theorem D.expr_list : T.prog.funcs[F.expr_list]? = some Tryz.f272 := Tryz.func272
abbrev F.word_Frac_Add : Nat := 275
theorem D.word_Frac_Add : T.prog.funcs[F.word_Frac_Add]? = some Tryz.f275 := Tryz.func275
abbrev F.word_Frac_Mul : Nat := 276
theorem D.word_Frac_Mul : T.prog.funcs[F.word_Frac_Mul]? = some Tryz.f276 := Tryz.func276
abbrev F.word_Frac_Cmp : Nat := 277
theorem D.word_Frac_Cmp : T.prog.funcs[F.word_Frac_Cmp]? = some Tryz.f277 := Tryz.func277
abbrev F.number_Abs_1 : Nat := 278
theorem D.number_Abs_1 : T.prog.funcs[F.number_Abs_1]? = some Tryz.f278 := Tryz.func278
abbrev F.word_Nat_Root : Nat := 279
theorem D.word_Nat_Root : T.prog.funcs[F.word_Nat_Root]? = some Tryz.f279 := Tryz.func279
abbrev F.elem_known : Nat := 280
theorem D.elem_known : T.prog.funcs[F.elem_known]? = some Tryz.f280 := Tryz.func280
abbrev F.elem_exact : Nat := 281
theorem D.elem_exact : T.prog.funcs[F.elem_exact]? = some Tryz.f281 := Tryz.func281
abbrev F.number_two : Nat := 282
theorem D.number_two : T.prog.funcs[F.number_two]? = some Tryz.f282 := Tryz.func282
abbrev F.number_Sub_1 : Nat := 283
theorem D.number_Sub_1 : T.prog.funcs[F.number_Sub_1]? = some Tryz.f283 := Tryz.func283
abbrev F.math_bits_TrailingZeros32 : Nat := 289
theorem D.math_bits_TrailingZeros32 : T.prog.funcs[F.math_bits_TrailingZeros32]? = some Tryz.f289 := Tryz.func289
abbrev F.math_bits_Len32 : Nat := 290
theorem D.math_bits_Len32 : T.prog.funcs[F.math_bits_Len32]? = some Tryz.f290 := Tryz.func290
abbrev F.word_Nat_Cmp : Nat := 291
theorem D.word_Nat_Cmp : T.prog.funcs[F.word_Nat_Cmp]? = some Tryz.f291 := Tryz.func291
abbrev F.word_Nat_DivSmall : Nat := 292
theorem D.word_Nat_DivSmall : T.prog.funcs[F.word_Nat_DivSmall]? = some Tryz.f292 := Tryz.func292
abbrev F.math_bits_LeadingZeros32 : Nat := 293
theorem D.math_bits_LeadingZeros32 : T.prog.funcs[F.math_bits_LeadingZeros32]? = some Tryz.f293 := Tryz.func293
abbrev F.word_Nat_Shl : Nat := 294
theorem D.word_Nat_Shl : T.prog.funcs[F.word_Nat_Shl]? = some Tryz.f294 := Tryz.func294
abbrev F.word_digit : Nat := 295
theorem D.word_digit : T.prog.funcs[F.word_digit]? = some Tryz.f295 := Tryz.func295
abbrev F.ref01_less : Nat := 296
theorem D.ref01_less : T.prog.funcs[F.ref01_less]? = some Tryz.f296 := Tryz.func296
abbrev F.math_bits_Len64 : Nat := 306
abbrev F.psyntax_Parser_atom : Nat := 307
theorem D.psyntax_Parser_atom : T.prog.funcs[F.psyntax_Parser_atom]? = some Tryz.f307 := Tryz.func307
abbrev F.psyntax_Parser_count : Nat := 308
theorem D.psyntax_Parser_count : T.prog.funcs[F.psyntax_Parser_count]? = some Tryz.f308 := Tryz.func308
abbrev F.internal_stringslite_Index : Nat := 309
theorem D.internal_stringslite_Index : T.prog.funcs[F.internal_stringslite_Index]? = some Tryz.f309 := Tryz.func309
abbrev F.word_Nat_Mul : Nat := 314
theorem D.word_Nat_Mul : T.prog.funcs[F.word_Nat_Mul]? = some Tryz.f314 := Tryz.func314
abbrev F.word_Nat_Add : Nat := 315
theorem D.word_Nat_Add : T.prog.funcs[F.word_Nat_Add]? = some Tryz.f315 := Tryz.func315
abbrev F.number_decimal : Nat := 318
theorem D.number_decimal : T.prog.funcs[F.number_decimal]? = some Tryz.f318 := Tryz.func318
abbrev F.pstrings_Builder_copyCheck : Nat := 319
abbrev F.expr_level : Nat := 320
theorem D.expr_level : T.prog.funcs[F.expr_level]? = some Tryz.f320 := Tryz.func320
abbrev F.internal_strconv_Itoa : Nat := 321
abbrev F.elem_Name : Nat := 322
theorem D.elem_Name : T.prog.funcs[F.elem_Name]? = some Tryz.f322 := Tryz.func322
abbrev F.word_Nat_Sub : Nat := 323
theorem D.word_Nat_Sub : T.prog.funcs[F.word_Nat_Sub]? = some Tryz.f323 := Tryz.func323
abbrev F.number_FromInt : Nat := 324
theorem D.number_FromInt : T.prog.funcs[F.number_FromInt]? = some Tryz.f324 := Tryz.func324
abbrev F.elem_isOne : Nat := 325
theorem D.elem_isOne : T.prog.funcs[F.elem_isOne]? = some Tryz.f325 := Tryz.func325
abbrev F.psyntax_Parser_Next : Nat := 333
theorem D.psyntax_Parser_Next : T.prog.funcs[F.psyntax_Parser_Next]? = some Tryz.f333 := Tryz.func333
abbrev F.psyntax_Parser_kids : Nat := 334
theorem D.psyntax_Parser_kids : T.prog.funcs[F.psyntax_Parser_kids]? = some Tryz.f334 := Tryz.func334
abbrev F.psyntax_Parser_Want : Nat := 335
theorem D.psyntax_Parser_Want : T.prog.funcs[F.psyntax_Parser_Want]? = some Tryz.f335 := Tryz.func335
abbrev F.psyntax_Parser_Number : Nat := 336
theorem D.psyntax_Parser_Number : T.prog.funcs[F.psyntax_Parser_Number]? = some Tryz.f336 := Tryz.func336
abbrev F.internal_stringslite_IndexByte : Nat := 337
abbrev F.slices_Reverse_of__of_byte_byte : Nat := 346
theorem D.slices_Reverse_of__of_byte_byte : T.prog.funcs[F.slices_Reverse_of__of_byte_byte]? = some Tryz.f346 := Tryz.func346
abbrev F.internal_strconv_FormatInt : Nat := 348
abbrev F.internal_strconv_small : Nat := 356
abbrev F.internal_strconv_numDigits : Nat := 357
abbrev F.internal_strconv_formatBase10 : Nat := 358
abbrev F.internal_strconv_formatBits : Nat := 359
abbrev F.internal_strconv_log10Pow2 : Nat := 360
abbrev F.internal_strconv_bool2_of_int : Nat := 361
abbrev F.internal_strconv_isPowerOfTwo : Nat := 362
abbrev F.math_bits_TrailingZeros : Nat := 363
abbrev F.math_bits_TrailingZeros64 : Nat := 364
abbrev Ty.int64 : Nat := 2
abbrev Ty.int : Nat := 3
abbrev Ty.bool : Nat := 4
abbrev Ty.uint8 : Nat := 5
abbrev Ty.int32 : Nat := 21
abbrev Ty.api_Rat : Nat := 24
abbrev Ty.api_Expr : Nat := 27
abbrev Ty.api_Errno : Nat := 28
abbrev Ty.ref01_Nat : Nat := 44
abbrev Ty.ref01_Q : Nat := 46
abbrev Ty.law04_Parts : Nat := 54
abbrev Ty.api_Value : Nat := 80
abbrev Ty.uint32 : Nat := 88
abbrev Ty.word_Nat : Nat := 89
abbrev Ty.word_Frac : Nat := 91
abbrev Ty.uint64 : Nat := 100
abbrev Ty.api_Bind : Nat := 104
abbrev Ty.syntax_Fault : Nat := 127
abbrev Ty.ref04_Token : Nat := 137
abbrev Ty.ref04_Reader : Nat := 141
abbrev Ty.syntax_Token : Nat := 177
abbrev Ty.syntax_Parser : Nat := 184
abbrev Ty.syntax_count : Nat := 191
abbrev Ty.ref04_Use : Nat := 195
abbrev Ty.expr_operand : Nat := 210
abbrev Gl.math_bits_deBruijn32tab : Nat := 0
abbrev Gl.internal_bytealg_MaxLen : Nat := 1
abbrev Gl.unicode_utf8_first : Nat := 2
abbrev Gl.unicode_utf8_acceptRanges : Nat := 3
abbrev Gl.internal_strconv_uint64pow10 : Nat := 4
abbrev Gl.math_bits_deBruijn64tab : Nat := 5
end Go.Proofs.YtmblpmegfmgjgaaGreatDoor