/- The tables of this seat's translation as the engine wants them: the types' shapes and zero values, the functions' numbers by name. Printed by program; every row is checked by Lean. -/
import Derived.Test.YtbgicephinomlaaGreatDoorProg
import Derived.Test.YtbgicephinomlaaGreatDoorVcRule
import Derived.KernelRfl
set_option linter.unusedVariables false
set_option linter.unusedSimpArgs false
set_option maxRecDepth 100000
namespace Go.Proofs.YtbgicephinomlaaGreatDoor
open Go Go.Vc
inductive BT (α : Type) where
  | leaf
  | node (l : BT α) (k : Nat) (x : α) (r : BT α)
def look {α : Type} : BT α → Nat → Option α
  | .leaf, _ => none
  | .node l k x r, t => match Nat.beq t k with
    | true => some x
    | false => match Nat.blt t k with
      | true => look l t
      | false => look r t
def BT.toL {α : Type} : BT α → List (Nat × α)
  | .leaf => []
  | .node l k x r => l.toL ++ (k, x) :: r.toL
theorem look_mem {α : Type} : ∀ {b : BT α} {t : Nat} {x : α}, look b t = some x → (t, x) ∈ b.toL
  | .leaf, _, _, h => by simp [look] at h
  | .node l k y r, t, x, h => by
    simp only [look] at h
    split at h
    · rename_i e
      obtain rfl := Nat.eq_of_beq_eq_true e
      cases h; simp [BT.toL]
    · split at h
      · exact List.mem_append_left _ (look_mem h)
      · exact List.mem_append_right _ (List.mem_cons_of_mem _ (look_mem h))
def undB : BT TypeDesc := (.node (.node (.node (.node (.node (.node .leaf 1 (.func #[] #[] false) .leaf) 2 (.int .i64) (.node .leaf 3 (.int .i64) .leaf)) 4 (.bool) (.node (.node .leaf 5 (.int .u8) .leaf) 9 (.string) .leaf)) 22 (.slice 104) (.node (.node (.node .leaf 24 (.struct #[⟨"Neg", 4, 0, false, "", "", 0⟩, ⟨"Num", 22, 1, false, "", "", 8⟩, ⟨"Den", 22, 2, false, "", "", 32⟩]) .leaf) 25 (.slice 27) .leaf) 27 (.struct #[⟨"Op", 3, 0, false, "", "", 0⟩, ⟨"Arg", 3, 1, false, "", "", 8⟩, ⟨"Num", 24, 2, false, "", "", 16⟩, ⟨"Name", 9, 5, false, "", "", 72⟩, ⟨"Kids", 25, 6, false, "", "", 88⟩]) (.node (.node .leaf 28 (.int .i64) .leaf) 32 (.func #[] #[4] false) .leaf))) 35 (.slice 104) (.node (.node (.node (.node .leaf 37 (.struct #[⟨"Neg", 4, 0, false, "", "", 0⟩, ⟨"N", 35, 1, false, "", "", 8⟩, ⟨"D", 35, 2, false, "", "", 32⟩]) .leaf) 39 (.slice 111) (.node .leaf 41 (.struct #[⟨"A", 27, 0, false, "", "", 0⟩, ⟨"B", 27, 7, false, "", "", 112⟩, ⟨"Name", 9, 14, false, "", "", 224⟩, ⟨"At", 39, 15, false, "", "", 240⟩]) .leaf)) 48 (.func #[27] #[4] false) (.node (.node .leaf 51 (.slice 9) .leaf) 65 (.func #[27] #[9, 28] false) .leaf)) 68 (.int .u64) (.node (.node (.node .leaf 76 (.func #[48] #[] false) .leaf) 93 (.slice 142) .leaf) 96 (.pointer 148) (.node (.node .leaf 99 (.struct #[⟨"Err", 28, 0, false, "", "", 0⟩, ⟨"At", 3, 1, false, "", "", 8⟩]) .leaf) 104 (.int .u32) .leaf)))) 109 (.map 9 24) (.node (.node (.node (.node (.node .leaf 111 (.struct #[⟨"Name", 9, 0, false, "", "", 0⟩, ⟨"Num", 24, 1, false, "", "", 16⟩]) .leaf) 123 (.slice 104) (.node .leaf 125 (.struct #[⟨"Neg", 4, 0, false, "", "", 0⟩, ⟨"Num", 123, 1, false, "", "", 8⟩, ⟨"Den", 123, 2, false, "", "", 32⟩]) .leaf)) 134 (.struct #[⟨"e", 27, 0, false, "", "inequality/expr", 0⟩, ⟨"x", 125, 7, false, "", "inequality/expr", 112⟩, ⟨"is", 4, 10, false, "", "inequality/expr", 168⟩]) (.node (.node .leaf 142 (.struct #[⟨"Kind", 3, 0, false, "", "", 0⟩, ⟨"Text", 9, 1, false, "", "", 8⟩, ⟨"At", 3, 2, false, "", "", 24⟩]) .leaf) 146 (.slice 155) .leaf)) 148 (.struct #[⟨"tokens", 93, 0, false, "", "inequality/syntax", 0⟩, ⟨"next", 3, 1, false, "", "inequality/syntax", 24⟩, ⟨"end", 3, 2, false, "", "inequality/syntax", 32⟩, ⟨"counts", 146, 3, false, "", "inequality/syntax", 40⟩]) (.node (.node (.node .leaf 149 (.slice 99) .leaf) 155 (.struct #[⟨"at", 3, 0, false, "", "inequality/syntax", 0⟩, ⟨"low", 3, 1, false, "", "inequality/syntax", 8⟩, ⟨"high", 3, 2, false, "", "inequality/syntax", 16⟩, ⟨"n", 3, 3, false, "", "inequality/syntax", 24⟩]) .leaf) 156 (.pointer 159) (.node (.node .leaf 157 (.slice 5) .leaf) 159 (.struct #[⟨"addr", 156, 0, false, "", "strings", 0⟩, ⟨"buf", 157, 1, false, "", "strings", 8⟩]) .leaf))) 164 (.int .u64) (.node (.node (.node (.node .leaf 168 (.func #[125] #[125] false) .leaf) 170 (.slice 24) (.node .leaf 190 (.array 256 4) .leaf)) 194 (.pointer 190) (.node (.node .leaf 207 (.pointer 5) .leaf) 236 (.map 3 9) .leaf)) 242 (.func #[125, 125] #[125] false) (.node (.node (.node .leaf 274 (.array 32 5) .leaf) 275 (.array 24 5) .leaf) 280 (.array 20 68) (.node (.node .leaf 281 (.array 65 5) .leaf) 282 (.array 64 5) .leaf)))))
def infB : BT (List Value × Nat) := (.node (.node (.node (.node (.node (.node .leaf 1 ([.nilFunc], 8) .leaf) 2 ([.int .i64 0], 8) (.node .leaf 3 ([.int .i64 0], 8) .leaf)) 4 ([.bool false], 1) (.node (.node .leaf 5 ([.int .u8 0], 1) .leaf) 9 ([.string ByteArray.empty], 16) .leaf)) 22 ([.slice none 0 0], 24) (.node (.node (.node .leaf 24 ([.bool false, .slice none 0 0, .slice none 0 0], 56) .leaf) 25 ([.slice none 0 0], 24) .leaf) 27 ([.int .i64 0, .int .i64 0, .bool false, .slice none 0 0, .slice none 0 0, .string ByteArray.empty, .slice none 0 0], 112) (.node (.node .leaf 28 ([.int .i64 0], 8) .leaf) 32 ([.nilFunc], 8) .leaf))) 35 ([.slice none 0 0], 24) (.node (.node (.node (.node .leaf 37 ([.bool false, .slice none 0 0, .slice none 0 0], 56) .leaf) 39 ([.slice none 0 0], 24) (.node .leaf 41 ([.int .i64 0, .int .i64 0, .bool false, .slice none 0 0, .slice none 0 0, .string ByteArray.empty, .slice none 0 0, .int .i64 0, .int .i64 0, .bool false, .slice none 0 0, .slice none 0 0, .string ByteArray.empty, .slice none 0 0, .string ByteArray.empty, .slice none 0 0], 264) .leaf)) 48 ([.nilFunc], 8) (.node (.node .leaf 51 ([.slice none 0 0], 24) .leaf) 65 ([.nilFunc], 8) .leaf)) 68 ([.int .u64 0], 8) (.node (.node (.node .leaf 76 ([.nilFunc], 8) .leaf) 93 ([.slice none 0 0], 24) .leaf) 96 ([.pointer none], 8) (.node (.node .leaf 99 ([.int .i64 0, .int .i64 0], 16) .leaf) 104 ([.int .u32 0], 4) .leaf)))) 109 ([.map none], 8) (.node (.node (.node (.node (.node .leaf 111 ([.string ByteArray.empty, .bool false, .slice none 0 0, .slice none 0 0], 72) .leaf) 123 ([.slice none 0 0], 24) (.node .leaf 125 ([.bool false, .slice none 0 0, .slice none 0 0], 56) .leaf)) 134 ([.int .i64 0, .int .i64 0, .bool false, .slice none 0 0, .slice none 0 0, .string ByteArray.empty, .slice none 0 0, .bool false, .slice none 0 0, .slice none 0 0, .bool false], 176) (.node (.node .leaf 142 ([.int .i64 0, .string ByteArray.empty, .int .i64 0], 32) .leaf) 146 ([.slice none 0 0], 24) .leaf)) 148 ([.slice none 0 0, .int .i64 0, .int .i64 0, .slice none 0 0], 64) (.node (.node (.node .leaf 149 ([.slice none 0 0], 24) .leaf) 155 ([.int .i64 0, .int .i64 0, .int .i64 0, .int .i64 0], 32) .leaf) 156 ([.pointer none], 8) (.node (.node .leaf 157 ([.slice none 0 0], 24) .leaf) 159 ([.pointer none, .slice none 0 0], 32) .leaf))) 164 ([.int .u64 0], 8) (.node (.node (.node (.node .leaf 168 ([.nilFunc], 8) .leaf) 170 ([.slice none 0 0], 24) .leaf) 194 ([.pointer none], 8) (.node (.node .leaf 207 ([.pointer none], 8) .leaf) 236 ([.map none], 8) .leaf)) 242 ([.nilFunc], 8) (.node (.node (.node .leaf 260 ([.pointer none], 8) .leaf) 274 ([.int .u8 0, .int .u8 0, .int .u8 0, .int .u8 0, .int .u8 0, .int .u8 0, .int .u8 0, .int .u8 0, .int .u8 0, .int .u8 0, .int .u8 0, .int .u8 0, .int .u8 0, .int .u8 0, .int .u8 0, .int .u8 0, .int .u8 0, .int .u8 0, .int .u8 0, .int .u8 0, .int .u8 0, .int .u8 0, .int .u8 0, .int .u8 0, .int .u8 0, .int .u8 0, .int .u8 0, .int .u8 0, .int .u8 0, .int .u8 0, .int .u8 0, .int .u8 0], 32) .leaf) 275 ([.int .u8 0, .int .u8 0, .int .u8 0, .int .u8 0, .int .u8 0, .int .u8 0, .int .u8 0, .int .u8 0, .int .u8 0, .int .u8 0, .int .u8 0, .int .u8 0, .int .u8 0, .int .u8 0, .int .u8 0, .int .u8 0, .int .u8 0, .int .u8 0, .int .u8 0, .int .u8 0, .int .u8 0, .int .u8 0, .int .u8 0, .int .u8 0], 24) (.node (.node .leaf 280 ([.int .u64 0, .int .u64 0, .int .u64 0, .int .u64 0, .int .u64 0, .int .u64 0, .int .u64 0, .int .u64 0, .int .u64 0, .int .u64 0, .int .u64 0, .int .u64 0, .int .u64 0, .int .u64 0, .int .u64 0, .int .u64 0, .int .u64 0, .int .u64 0, .int .u64 0, .int .u64 0], 160) .leaf) 282 ([.int .u8 0, .int .u8 0, .int .u8 0, .int .u8 0, .int .u8 0, .int .u8 0, .int .u8 0, .int .u8 0, .int .u8 0, .int .u8 0, .int .u8 0, .int .u8 0, .int .u8 0, .int .u8 0, .int .u8 0, .int .u8 0, .int .u8 0, .int .u8 0, .int .u8 0, .int .u8 0, .int .u8 0, .int .u8 0, .int .u8 0, .int .u8 0, .int .u8 0, .int .u8 0, .int .u8 0, .int .u8 0, .int .u8 0, .int .u8 0, .int .u8 0, .int .u8 0, .int .u8 0, .int .u8 0, .int .u8 0, .int .u8 0, .int .u8 0, .int .u8 0, .int .u8 0, .int .u8 0, .int .u8 0, .int .u8 0, .int .u8 0, .int .u8 0, .int .u8 0, .int .u8 0, .int .u8 0, .int .u8 0, .int .u8 0, .int .u8 0, .int .u8 0, .int .u8 0, .int .u8 0, .int .u8 0, .int .u8 0, .int .u8 0, .int .u8 0, .int .u8 0, .int .u8 0, .int .u8 0, .int .u8 0, .int .u8 0, .int .u8 0, .int .u8 0], 64) .leaf)))))
def fnB : BT Unit := (.node (.node (.node (.node (.node (.node (.node (.node .leaf 5 () .leaf) 7 () .leaf) 10 () (.node (.node .leaf 12 () .leaf) 13 () .leaf)) 14 () (.node (.node (.node .leaf 15 () .leaf) 16 () .leaf) 17 () (.node (.node .leaf 25 () .leaf) 27 () .leaf))) 28 () (.node (.node (.node (.node .leaf 29 () .leaf) 30 () .leaf) 31 () (.node (.node .leaf 39 () .leaf) 40 () .leaf)) 41 () (.node (.node (.node .leaf 42 () .leaf) 43 () .leaf) 44 () (.node (.node .leaf 45 () .leaf) 46 () .leaf)))) 47 () (.node (.node (.node (.node (.node .leaf 48 () .leaf) 50 () .leaf) 52 () (.node (.node .leaf 56 () .leaf) 57 () .leaf)) 58 () (.node (.node (.node .leaf 59 () .leaf) 60 () .leaf) 61 () (.node (.node .leaf 62 () .leaf) 63 () .leaf))) 64 () (.node (.node (.node (.node .leaf 65 () .leaf) 81 () .leaf) 82 () (.node (.node .leaf 83 () .leaf) 84 () .leaf)) 85 () (.node (.node (.node .leaf 86 () .leaf) 87 () .leaf) 88 () (.node (.node .leaf 89 () .leaf) 90 () .leaf))))) 91 () (.node (.node (.node (.node (.node (.node .leaf 92 () .leaf) 93 () .leaf) 94 () (.node (.node .leaf 95 () .leaf) 96 () .leaf)) 97 () (.node (.node (.node .leaf 98 () .leaf) 99 () .leaf) 101 () (.node (.node .leaf 102 () .leaf) 103 () .leaf))) 108 () (.node (.node (.node (.node .leaf 109 () .leaf) 110 () .leaf) 111 () (.node (.node .leaf 112 () .leaf) 113 () .leaf)) 114 () (.node (.node (.node .leaf 115 () .leaf) 116 () .leaf) 117 () (.node (.node .leaf 118 () .leaf) 119 () .leaf)))) 120 () (.node (.node (.node (.node (.node .leaf 121 () .leaf) 122 () .leaf) 128 () (.node (.node .leaf 129 () .leaf) 130 () .leaf)) 131 () (.node (.node (.node .leaf 132 () .leaf) 133 () .leaf) 134 () (.node (.node .leaf 135 () .leaf) 136 () .leaf))) 137 () (.node (.node (.node (.node .leaf 138 () .leaf) 139 () .leaf) 140 () (.node (.node .leaf 141 () .leaf) 142 () .leaf)) 143 () (.node (.node (.node .leaf 144 () .leaf) 145 () .leaf) 146 () (.node .leaf 147 () .leaf)))))) 148 () (.node (.node (.node (.node (.node (.node (.node .leaf 149 () .leaf) 154 () .leaf) 155 () (.node (.node .leaf 156 () .leaf) 157 () .leaf)) 161 () (.node (.node (.node .leaf 162 () .leaf) 163 () .leaf) 164 () (.node (.node .leaf 165 () .leaf) 166 () .leaf))) 167 () (.node (.node (.node (.node .leaf 168 () .leaf) 172 () .leaf) 173 () (.node (.node .leaf 174 () .leaf) 175 () .leaf)) 176 () (.node (.node (.node .leaf 177 () .leaf) 178 () .leaf) 179 () (.node (.node .leaf 185 () .leaf) 186 () .leaf)))) 187 () (.node (.node (.node (.node (.node .leaf 188 () .leaf) 189 () .leaf) 190 () (.node (.node .leaf 191 () .leaf) 192 () .leaf)) 193 () (.node (.node (.node .leaf 194 () .leaf) 195 () .leaf) 196 () (.node (.node .leaf 197 () .leaf) 198 () .leaf))) 199 () (.node (.node (.node (.node .leaf 200 () .leaf) 201 () .leaf) 202 () (.node (.node .leaf 203 () .leaf) 204 () .leaf)) 205 () (.node (.node (.node .leaf 206 () .leaf) 216 () .leaf) 217 () (.node .leaf 218 () .leaf))))) 219 () (.node (.node (.node (.node (.node (.node .leaf 220 () .leaf) 221 () .leaf) 222 () (.node (.node .leaf 223 () .leaf) 226 () .leaf)) 227 () (.node (.node (.node .leaf 228 () .leaf) 233 () .leaf) 234 () (.node (.node .leaf 235 () .leaf) 236 () .leaf))) 237 () (.node (.node (.node (.node .leaf 238 () .leaf) 239 () .leaf) 240 () (.node (.node .leaf 241 () .leaf) 242 () .leaf)) 243 () (.node (.node (.node .leaf 244 () .leaf) 245 () .leaf) 246 () (.node (.node .leaf 247 () .leaf) 248 () .leaf)))) 255 () (.node (.node (.node (.node (.node .leaf 256 () .leaf) 257 () .leaf) 258 () (.node (.node .leaf 259 () .leaf) 266 () .leaf)) 267 () (.node (.node (.node .leaf 268 () .leaf) 269 () .leaf) 270 () (.node (.node .leaf 271 () .leaf) 273 () .leaf))) 274 () (.node (.node (.node (.node .leaf 275 () .leaf) 281 () .leaf) 282 () (.node (.node .leaf 283 () .leaf) 284 () .leaf)) 285 () (.node (.node (.node .leaf 286 () .leaf) 287 () .leaf) 288 () (.node .leaf 289 () .leaf)))))))
def BT.All {α : Type} (p : Nat × α → Prop) : BT α → Prop
  | .leaf => True
  | .node l k x r => l.All p ∧ p (k, x) ∧ r.All p
theorem lf {α : Type} {p : Nat × α → Prop} : BT.All p .leaf := trivial
theorem nd {α : Type} {p : Nat × α → Prop} {l r : BT α} {k : Nat} {x : α} (a : l.All p) (b : p (k, x)) (c : r.All p) : BT.All p (.node l k x r) := ⟨a, b, c⟩
theorem BT.all_mem {α : Type} {p : Nat × α → Prop} {y : Nat × α} : ∀ {b : BT α}, b.All p → y ∈ b.toL → p y
  | .leaf, _, h => by cases h
  | .node l k x r, ⟨h1, h2, h3⟩, h => by
    rw [BT.toL] at h
    rcases List.mem_append.1 h with h | h
    · exact BT.all_mem h1 h
    · rcases List.mem_cons.1 h with rfl | h
      · exact h2
      · exact BT.all_mem h3 h
noncomputable def T : Tab := { prog := Tryz.prog, und := look undB, inf := look infB, fn := fun f => (look fnB f).isSome, room := False }
theorem undOk : undB.All fun x => Tryz.prog.underlying x.1 = some x.2 := (nd (nd (nd (nd (nd (nd lf Tryz.underlying1 lf) Tryz.underlying2 (nd lf Tryz.underlying3 lf)) Tryz.underlying4 (nd (nd lf Tryz.underlying5 lf) Tryz.underlying9 lf)) Tryz.underlying22 (nd (nd (nd lf Tryz.underlying24 lf) Tryz.underlying25 lf) Tryz.underlying27 (nd (nd lf Tryz.underlying28 lf) Tryz.underlying32 lf))) Tryz.underlying35 (nd (nd (nd (nd lf Tryz.underlying37 lf) Tryz.underlying39 (nd lf Tryz.underlying41 lf)) Tryz.underlying48 (nd (nd lf Tryz.underlying51 lf) Tryz.underlying65 lf)) Tryz.underlying68 (nd (nd (nd lf Tryz.underlying76 lf) Tryz.underlying93 lf) Tryz.underlying96 (nd (nd lf Tryz.underlying99 lf) Tryz.underlying104 lf)))) Tryz.underlying109 (nd (nd (nd (nd (nd lf Tryz.underlying111 lf) Tryz.underlying123 (nd lf Tryz.underlying125 lf)) Tryz.underlying134 (nd (nd lf Tryz.underlying142 lf) Tryz.underlying146 lf)) Tryz.underlying148 (nd (nd (nd lf Tryz.underlying149 lf) Tryz.underlying155 lf) Tryz.underlying156 (nd (nd lf Tryz.underlying157 lf) Tryz.underlying159 lf))) Tryz.underlying164 (nd (nd (nd (nd lf Tryz.underlying168 lf) Tryz.underlying170 (nd lf Tryz.underlying190 lf)) Tryz.underlying194 (nd (nd lf Tryz.underlying207 lf) Tryz.underlying236 lf)) Tryz.underlying242 (nd (nd (nd lf Tryz.underlying274 lf) Tryz.underlying275 lf) Tryz.underlying280 (nd (nd lf Tryz.underlying281 lf) Tryz.underlying282 lf)))))
theorem infOk : infB.All fun x => ∃ i v, Tryz.prog.info? x.1 = some i ∧ i.zero = some v ∧ v.cells = x.2.1.toArray ∧ i.size = x.2.1.length ∧ i.bytes = x.2.2 := (nd (nd (nd (nd (nd (nd lf ⟨Tryz.t1, _, by kernel_rfl, rfl, rfl, rfl, rfl⟩ lf) ⟨Tryz.t2, _, by kernel_rfl, rfl, rfl, rfl, rfl⟩ (nd lf ⟨Tryz.t3, _, by kernel_rfl, rfl, rfl, rfl, rfl⟩ lf)) ⟨Tryz.t4, _, by kernel_rfl, rfl, rfl, rfl, rfl⟩ (nd (nd lf ⟨Tryz.t5, _, by kernel_rfl, rfl, rfl, rfl, rfl⟩ lf) ⟨Tryz.t9, _, by kernel_rfl, rfl, rfl, rfl, rfl⟩ lf)) ⟨Tryz.t22, _, by kernel_rfl, rfl, rfl, rfl, rfl⟩ (nd (nd (nd lf ⟨Tryz.t24, _, by kernel_rfl, rfl, rfl, rfl, rfl⟩ lf) ⟨Tryz.t25, _, by kernel_rfl, rfl, rfl, rfl, rfl⟩ lf) ⟨Tryz.t27, _, by kernel_rfl, rfl, rfl, rfl, rfl⟩ (nd (nd lf ⟨Tryz.t28, _, by kernel_rfl, rfl, rfl, rfl, rfl⟩ lf) ⟨Tryz.t32, _, by kernel_rfl, rfl, rfl, rfl, rfl⟩ lf))) ⟨Tryz.t35, _, by kernel_rfl, rfl, rfl, rfl, rfl⟩ (nd (nd (nd (nd lf ⟨Tryz.t37, _, by kernel_rfl, rfl, rfl, rfl, rfl⟩ lf) ⟨Tryz.t39, _, by kernel_rfl, rfl, rfl, rfl, rfl⟩ (nd lf ⟨Tryz.t41, _, by kernel_rfl, rfl, rfl, rfl, rfl⟩ lf)) ⟨Tryz.t48, _, by kernel_rfl, rfl, rfl, rfl, rfl⟩ (nd (nd lf ⟨Tryz.t51, _, by kernel_rfl, rfl, rfl, rfl, rfl⟩ lf) ⟨Tryz.t65, _, by kernel_rfl, rfl, rfl, rfl, rfl⟩ lf)) ⟨Tryz.t68, _, by kernel_rfl, rfl, rfl, rfl, rfl⟩ (nd (nd (nd lf ⟨Tryz.t76, _, by kernel_rfl, rfl, rfl, rfl, rfl⟩ lf) ⟨Tryz.t93, _, by kernel_rfl, rfl, rfl, rfl, rfl⟩ lf) ⟨Tryz.t96, _, by kernel_rfl, rfl, rfl, rfl, rfl⟩ (nd (nd lf ⟨Tryz.t99, _, by kernel_rfl, rfl, rfl, rfl, rfl⟩ lf) ⟨Tryz.t104, _, by kernel_rfl, rfl, rfl, rfl, rfl⟩ lf)))) ⟨Tryz.t109, _, by kernel_rfl, rfl, rfl, rfl, rfl⟩ (nd (nd (nd (nd (nd lf ⟨Tryz.t111, _, by kernel_rfl, rfl, rfl, rfl, rfl⟩ lf) ⟨Tryz.t123, _, by kernel_rfl, rfl, rfl, rfl, rfl⟩ (nd lf ⟨Tryz.t125, _, by kernel_rfl, rfl, rfl, rfl, rfl⟩ lf)) ⟨Tryz.t134, _, by kernel_rfl, rfl, rfl, rfl, rfl⟩ (nd (nd lf ⟨Tryz.t142, _, by kernel_rfl, rfl, rfl, rfl, rfl⟩ lf) ⟨Tryz.t146, _, by kernel_rfl, rfl, rfl, rfl, rfl⟩ lf)) ⟨Tryz.t148, _, by kernel_rfl, rfl, rfl, rfl, rfl⟩ (nd (nd (nd lf ⟨Tryz.t149, _, by kernel_rfl, rfl, rfl, rfl, rfl⟩ lf) ⟨Tryz.t155, _, by kernel_rfl, rfl, rfl, rfl, rfl⟩ lf) ⟨Tryz.t156, _, by kernel_rfl, rfl, rfl, rfl, rfl⟩ (nd (nd lf ⟨Tryz.t157, _, by kernel_rfl, rfl, rfl, rfl, rfl⟩ lf) ⟨Tryz.t159, _, by kernel_rfl, rfl, rfl, rfl, rfl⟩ lf))) ⟨Tryz.t164, _, by kernel_rfl, rfl, rfl, rfl, rfl⟩ (nd (nd (nd (nd lf ⟨Tryz.t168, _, by kernel_rfl, rfl, rfl, rfl, rfl⟩ lf) ⟨Tryz.t170, _, by kernel_rfl, rfl, rfl, rfl, rfl⟩ lf) ⟨Tryz.t194, _, by kernel_rfl, rfl, rfl, rfl, rfl⟩ (nd (nd lf ⟨Tryz.t207, _, by kernel_rfl, rfl, rfl, rfl, rfl⟩ lf) ⟨Tryz.t236, _, by kernel_rfl, rfl, rfl, rfl, rfl⟩ lf)) ⟨Tryz.t242, _, by kernel_rfl, rfl, rfl, rfl, rfl⟩ (nd (nd (nd lf ⟨Tryz.t260, _, by kernel_rfl, rfl, rfl, rfl, rfl⟩ lf) ⟨Tryz.t274, _, by kernel_rfl, rfl, rfl, rfl, rfl⟩ lf) ⟨Tryz.t275, _, by kernel_rfl, rfl, rfl, rfl, rfl⟩ (nd (nd lf ⟨Tryz.t280, _, by kernel_rfl, rfl, rfl, rfl, rfl⟩ lf) ⟨Tryz.t282, _, by kernel_rfl, rfl, rfl, rfl, rfl⟩ lf)))))
theorem fnOk : fnB.All fun x => ∀ args w, (callFunc x.1 args).run Tryz.prog w = .ok (.enter x.1 args) w := (nd (nd (nd (nd (nd (nd (nd (nd lf Tryz.call5 lf) Tryz.call7 lf) Tryz.call10 (nd (nd lf Tryz.call12 lf) Tryz.call13 lf)) Tryz.call14 (nd (nd (nd lf Tryz.call15 lf) Tryz.call16 lf) Tryz.call17 (nd (nd lf Tryz.call25 lf) Tryz.call27 lf))) Tryz.call28 (nd (nd (nd (nd lf Tryz.call29 lf) Tryz.call30 lf) Tryz.call31 (nd (nd lf Tryz.call39 lf) Tryz.call40 lf)) Tryz.call41 (nd (nd (nd lf Tryz.call42 lf) Tryz.call43 lf) Tryz.call44 (nd (nd lf Tryz.call45 lf) Tryz.call46 lf)))) Tryz.call47 (nd (nd (nd (nd (nd lf Tryz.call48 lf) Tryz.call50 lf) Tryz.call52 (nd (nd lf Tryz.call56 lf) Tryz.call57 lf)) Tryz.call58 (nd (nd (nd lf Tryz.call59 lf) Tryz.call60 lf) Tryz.call61 (nd (nd lf Tryz.call62 lf) Tryz.call63 lf))) Tryz.call64 (nd (nd (nd (nd lf Tryz.call65 lf) Tryz.call81 lf) Tryz.call82 (nd (nd lf Tryz.call83 lf) Tryz.call84 lf)) Tryz.call85 (nd (nd (nd lf Tryz.call86 lf) Tryz.call87 lf) Tryz.call88 (nd (nd lf Tryz.call89 lf) Tryz.call90 lf))))) Tryz.call91 (nd (nd (nd (nd (nd (nd lf Tryz.call92 lf) Tryz.call93 lf) Tryz.call94 (nd (nd lf Tryz.call95 lf) Tryz.call96 lf)) Tryz.call97 (nd (nd (nd lf Tryz.call98 lf) Tryz.call99 lf) Tryz.call101 (nd (nd lf Tryz.call102 lf) Tryz.call103 lf))) Tryz.call108 (nd (nd (nd (nd lf Tryz.call109 lf) Tryz.call110 lf) Tryz.call111 (nd (nd lf Tryz.call112 lf) Tryz.call113 lf)) Tryz.call114 (nd (nd (nd lf Tryz.call115 lf) Tryz.call116 lf) Tryz.call117 (nd (nd lf Tryz.call118 lf) Tryz.call119 lf)))) Tryz.call120 (nd (nd (nd (nd (nd lf Tryz.call121 lf) Tryz.call122 lf) Tryz.call128 (nd (nd lf Tryz.call129 lf) Tryz.call130 lf)) Tryz.call131 (nd (nd (nd lf Tryz.call132 lf) Tryz.call133 lf) Tryz.call134 (nd (nd lf Tryz.call135 lf) Tryz.call136 lf))) Tryz.call137 (nd (nd (nd (nd lf Tryz.call138 lf) Tryz.call139 lf) Tryz.call140 (nd (nd lf Tryz.call141 lf) Tryz.call142 lf)) Tryz.call143 (nd (nd (nd lf Tryz.call144 lf) Tryz.call145 lf) Tryz.call146 (nd lf Tryz.call147 lf)))))) Tryz.call148 (nd (nd (nd (nd (nd (nd (nd lf Tryz.call149 lf) Tryz.call154 lf) Tryz.call155 (nd (nd lf Tryz.call156 lf) Tryz.call157 lf)) Tryz.call161 (nd (nd (nd lf Tryz.call162 lf) Tryz.call163 lf) Tryz.call164 (nd (nd lf Tryz.call165 lf) Tryz.call166 lf))) Tryz.call167 (nd (nd (nd (nd lf Tryz.call168 lf) Tryz.call172 lf) Tryz.call173 (nd (nd lf Tryz.call174 lf) Tryz.call175 lf)) Tryz.call176 (nd (nd (nd lf Tryz.call177 lf) Tryz.call178 lf) Tryz.call179 (nd (nd lf Tryz.call185 lf) Tryz.call186 lf)))) Tryz.call187 (nd (nd (nd (nd (nd lf Tryz.call188 lf) Tryz.call189 lf) Tryz.call190 (nd (nd lf Tryz.call191 lf) Tryz.call192 lf)) Tryz.call193 (nd (nd (nd lf Tryz.call194 lf) Tryz.call195 lf) Tryz.call196 (nd (nd lf Tryz.call197 lf) Tryz.call198 lf))) Tryz.call199 (nd (nd (nd (nd lf Tryz.call200 lf) Tryz.call201 lf) Tryz.call202 (nd (nd lf Tryz.call203 lf) Tryz.call204 lf)) Tryz.call205 (nd (nd (nd lf Tryz.call206 lf) Tryz.call216 lf) Tryz.call217 (nd lf Tryz.call218 lf))))) Tryz.call219 (nd (nd (nd (nd (nd (nd lf Tryz.call220 lf) Tryz.call221 lf) Tryz.call222 (nd (nd lf Tryz.call223 lf) Tryz.call226 lf)) Tryz.call227 (nd (nd (nd lf Tryz.call228 lf) Tryz.call233 lf) Tryz.call234 (nd (nd lf Tryz.call235 lf) Tryz.call236 lf))) Tryz.call237 (nd (nd (nd (nd lf Tryz.call238 lf) Tryz.call239 lf) Tryz.call240 (nd (nd lf Tryz.call241 lf) Tryz.call242 lf)) Tryz.call243 (nd (nd (nd lf Tryz.call244 lf) Tryz.call245 lf) Tryz.call246 (nd (nd lf Tryz.call247 lf) Tryz.call248 lf)))) Tryz.call255 (nd (nd (nd (nd (nd lf Tryz.call256 lf) Tryz.call257 lf) Tryz.call258 (nd (nd lf Tryz.call259 lf) Tryz.call266 lf)) Tryz.call267 (nd (nd (nd lf Tryz.call268 lf) Tryz.call269 lf) Tryz.call270 (nd (nd lf Tryz.call271 lf) Tryz.call273 lf))) Tryz.call274 (nd (nd (nd (nd lf Tryz.call275 lf) Tryz.call281 lf) Tryz.call282 (nd (nd lf Tryz.call283 lf) Tryz.call284 lf)) Tryz.call285 (nd (nd (nd lf Tryz.call286 lf) Tryz.call287 lf) Tryz.call288 (nd lf Tryz.call289 lf)))))))
theorem mixedOk : Tryz.prog.follows .mixedOrders = true := by kernel_rfl
theorem ok : T.Ok where
  und t d h := BT.all_mem (y := (t, d)) undOk (look_mem h)
  inf t z n h := BT.all_mem (y := (t, (z, n))) infOk (look_mem h)
  fn f h args w := by
    obtain ⟨x, hx⟩ := Option.isSome_iff_exists.1 (show (look fnB f).isSome = true from h)
    exact BT.all_mem fnOk (look_mem hx) args w
  mixed := mixedOk
abbrev F.law04_ExprDeriveParts : Nat := 5
theorem D.law04_ExprDeriveParts : T.prog.funcs[F.law04_ExprDeriveParts]? = some Tryz.f5 := Tryz.func5
abbrev F.expr_Derive : Nat := 7
theorem D.expr_Derive : T.prog.funcs[F.expr_Derive]? = some Tryz.f7 := Tryz.func7
abbrev F.law04_sane : Nat := 10
theorem D.law04_sane : T.prog.funcs[F.law04_sane]? = some Tryz.f10 := Tryz.func10
abbrev F.ref01_Sgn : Nat := 12
theorem D.ref01_Sgn : T.prog.funcs[F.ref01_Sgn]? = some Tryz.f12 := Tryz.func12
abbrev F.ref01_Of : Nat := 13
theorem D.ref01_Of : T.prog.funcs[F.ref01_Of]? = some Tryz.f13 := Tryz.func13
abbrev F.law04_Parts_at : Nat := 14
theorem D.law04_Parts_at : T.prog.funcs[F.law04_Parts_at]? = some Tryz.f14 := Tryz.func14
abbrev F.law04_node : Nat := 15
theorem D.law04_node : T.prog.funcs[F.law04_node]? = some Tryz.f15 := Tryz.func15
abbrev F.ref01_Cmp : Nat := 16
theorem D.ref01_Cmp : T.prog.funcs[F.ref01_Cmp]? = some Tryz.f16 := Tryz.func16
abbrev F.law04_rule : Nat := 17
theorem D.law04_rule : T.prog.funcs[F.law04_rule]? = some Tryz.f17 := Tryz.func17
abbrev F.expr_Valid : Nat := 25
theorem D.expr_Valid : T.prog.funcs[F.expr_Valid]? = some Tryz.f25 := Tryz.func25
abbrev F.expr_IsName : Nat := 27
theorem D.expr_IsName : T.prog.funcs[F.expr_IsName]? = some Tryz.f27 := Tryz.func27
abbrev F.expr_smooth : Nat := 28
abbrev F.expr_checked : Nat := 29
theorem D.expr_checked : T.prog.funcs[F.expr_checked]? = some Tryz.f29 := Tryz.func29
abbrev F.expr_simplified : Nat := 30
theorem D.expr_simplified : T.prog.funcs[F.expr_simplified]? = some Tryz.f30 := Tryz.func30
abbrev F.expr_derived : Nat := 31
theorem D.expr_derived : T.prog.funcs[F.expr_derived]? = some Tryz.f31 := Tryz.func31
abbrev F.expr_Parse : Nat := 39
theorem D.expr_Parse : T.prog.funcs[F.expr_Parse]? = some Tryz.f39 := Tryz.func39
abbrev F.expr_Print : Nat := 40
theorem D.expr_Print : T.prog.funcs[F.expr_Print]? = some Tryz.f40 := Tryz.func40
abbrev F.ref01_words : Nat := 41
theorem D.ref01_words : T.prog.funcs[F.ref01_words]? = some Tryz.f41 := Tryz.func41
abbrev F.ref01_NatOf : Nat := 42
theorem D.ref01_NatOf : T.prog.funcs[F.ref01_NatOf]? = some Tryz.f42 := Tryz.func42
abbrev F.ref01_Make : Nat := 43
theorem D.ref01_Make : T.prog.funcs[F.ref01_Make]? = some Tryz.f43 := Tryz.func43
abbrev F.expr_Value : Nat := 44
theorem D.expr_Value : T.prog.funcs[F.expr_Value]? = some Tryz.f44 := Tryz.func44
abbrev F.ref01_Diff : Nat := 45
theorem D.ref01_Diff : T.prog.funcs[F.ref01_Diff]? = some Tryz.f45 := Tryz.func45
abbrev F.ref01_Sum : Nat := 46
theorem D.ref01_Sum : T.prog.funcs[F.ref01_Sum]? = some Tryz.f46 := Tryz.func46
abbrev F.ref01_Prod : Nat := 47
theorem D.ref01_Prod : T.prog.funcs[F.ref01_Prod]? = some Tryz.f47 := Tryz.func47
abbrev F.ref01_Div : Nat := 48
theorem D.ref01_Div : T.prog.funcs[F.ref01_Div]? = some Tryz.f48 := Tryz.func48
abbrev F.expr_count : Nat := 50
theorem D.expr_count : T.prog.funcs[F.expr_count]? = some Tryz.f50 := Tryz.func50
abbrev F.expr_nodes : Nat := 52
abbrev F.syntax_IsName : Nat := 56
theorem D.syntax_IsName : T.prog.funcs[F.syntax_IsName]? = some Tryz.f56 := Tryz.func56
abbrev F.expr_rough : Nat := 57
abbrev F.expr_clone : Nat := 58
theorem D.expr_clone : T.prog.funcs[F.expr_clone]? = some Tryz.f58 := Tryz.func58
abbrev F.expr_negated : Nat := 59
theorem D.expr_negated : T.prog.funcs[F.expr_negated]? = some Tryz.f59 := Tryz.func59
abbrev F.expr_raised : Nat := 60
theorem D.expr_raised : T.prog.funcs[F.expr_raised]? = some Tryz.f60 := Tryz.func60
abbrev F.expr_combined : Nat := 61
theorem D.expr_combined : T.prog.funcs[F.expr_combined]? = some Tryz.f61 := Tryz.func61
abbrev F.expr_whole : Nat := 62
theorem D.expr_whole : T.prog.funcs[F.expr_whole]? = some Tryz.f62 := Tryz.func62
abbrev F.expr_node : Nat := 63
theorem D.expr_node : T.prog.funcs[F.expr_node]? = some Tryz.f63 := Tryz.func63
abbrev F.expr_derivedPower : Nat := 64
theorem D.expr_derivedPower : T.prog.funcs[F.expr_derivedPower]? = some Tryz.f64 := Tryz.func64
abbrev F.expr_derivedCall : Nat := 65
theorem D.expr_derivedCall : T.prog.funcs[F.expr_derivedCall]? = some Tryz.f65 := Tryz.func65
abbrev F.syntax_Scan : Nat := 81
theorem D.syntax_Scan : T.prog.funcs[F.syntax_Scan]? = some Tryz.f81 := Tryz.func81
abbrev F.syntax_New : Nat := 82
theorem D.syntax_New : T.prog.funcs[F.syntax_New]? = some Tryz.f82 := Tryz.func82
abbrev F.syntax_Run : Nat := 83
abbrev F.expr_Parse_1 : Nat := 84
theorem D.expr_Parse_1 : T.prog.funcs[F.expr_Parse_1]? = some Tryz.f84 := Tryz.func84
abbrev F.psyntax_Parser_Expr : Nat := 85
theorem D.psyntax_Parser_Expr : T.prog.funcs[F.psyntax_Parser_Expr]? = some Tryz.f85 := Tryz.func85
abbrev F.psyntax_Parser_Done : Nat := 86
theorem D.psyntax_Parser_Done : T.prog.funcs[F.psyntax_Parser_Done]? = some Tryz.f86 := Tryz.func86
abbrev F.psyntax_Parser_Check : Nat := 87
theorem D.psyntax_Parser_Check : T.prog.funcs[F.psyntax_Parser_Check]? = some Tryz.f87 := Tryz.func87
abbrev F.expr_text : Nat := 88
theorem D.expr_text : T.prog.funcs[F.expr_text]? = some Tryz.f88 := Tryz.func88
abbrev F.ref01_trim : Nat := 89
theorem D.ref01_trim : T.prog.funcs[F.ref01_trim]? = some Tryz.f89 := Tryz.func89
abbrev F.ref01_NatGcd : Nat := 90
theorem D.ref01_NatGcd : T.prog.funcs[F.ref01_NatGcd]? = some Tryz.f90 := Tryz.func90
abbrev F.ref01_NatDiv : Nat := 91
theorem D.ref01_NatDiv : T.prog.funcs[F.ref01_NatDiv]? = some Tryz.f91 := Tryz.func91
abbrev F.number_Canon : Nat := 92
theorem D.number_Canon : T.prog.funcs[F.number_Canon]? = some Tryz.f92 := Tryz.func92
abbrev F.expr_value : Nat := 93
theorem D.expr_value : T.prog.funcs[F.expr_value]? = some Tryz.f93 := Tryz.func93
abbrev F.ref01_Opp : Nat := 94
theorem D.ref01_Opp : T.prog.funcs[F.ref01_Opp]? = some Tryz.f94 := Tryz.func94
abbrev F.ref01_NatMul : Nat := 95
theorem D.ref01_NatMul : T.prog.funcs[F.ref01_NatMul]? = some Tryz.f95 := Tryz.func95
abbrev F.ref01_Q_den : Nat := 96
theorem D.ref01_Q_den : T.prog.funcs[F.ref01_Q_den]? = some Tryz.f96 := Tryz.func96
abbrev F.ref01_NatAdd : Nat := 97
theorem D.ref01_NatAdd : T.prog.funcs[F.ref01_NatAdd]? = some Tryz.f97 := Tryz.func97
abbrev F.ref01_NatCmp : Nat := 98
theorem D.ref01_NatCmp : T.prog.funcs[F.ref01_NatCmp]? = some Tryz.f98 := Tryz.func98
abbrev F.ref01_NatSub : Nat := 99
theorem D.ref01_NatSub : T.prog.funcs[F.ref01_NatSub]? = some Tryz.f99 := Tryz.func99
abbrev F.expr_fields : Nat := 101
theorem D.expr_fields : T.prog.funcs[F.expr_fields]? = some Tryz.f101 := Tryz.func101
abbrev F.expr_nodes_1 : Nat := 102
abbrev F.expr_each : Nat := 103
abbrev F.syntax_word : Nat := 108
theorem D.syntax_word : T.prog.funcs[F.syntax_word]? = some Tryz.f108 := Tryz.func108
abbrev F.syntax_Reserved : Nat := 109
theorem D.syntax_Reserved : T.prog.funcs[F.syntax_Reserved]? = some Tryz.f109 := Tryz.func109
abbrev F.expr_literal : Nat := 110
theorem D.expr_literal : T.prog.funcs[F.expr_literal]? = some Tryz.f110 := Tryz.func110
abbrev F.expr_lit : Nat := 111
theorem D.expr_lit : T.prog.funcs[F.expr_lit]? = some Tryz.f111 := Tryz.func111
abbrev F.word_Frac_Opposite : Nat := 112
theorem D.word_Frac_Opposite : T.prog.funcs[F.word_Frac_Opposite]? = some Tryz.f112 := Tryz.func112
abbrev F.word_Frac_Sign : Nat := 113
theorem D.word_Frac_Sign : T.prog.funcs[F.word_Frac_Sign]? = some Tryz.f113 := Tryz.func113
abbrev F.word_Frac_Inverse : Nat := 114
theorem D.word_Frac_Inverse : T.prog.funcs[F.word_Frac_Inverse]? = some Tryz.f114 := Tryz.func114
abbrev F.word_Frac_Pow : Nat := 115
theorem D.word_Frac_Pow : T.prog.funcs[F.word_Frac_Pow]? = some Tryz.f115 := Tryz.func115
abbrev F.expr_operandOf : Nat := 116
theorem D.expr_operandOf : T.prog.funcs[F.expr_operandOf]? = some Tryz.f116 := Tryz.func116
abbrev F.expr_fold : Nat := 117
theorem D.expr_fold : T.prog.funcs[F.expr_fold]? = some Tryz.f117 := Tryz.func117
abbrev F.expr_added : Nat := 118
theorem D.expr_added : T.prog.funcs[F.expr_added]? = some Tryz.f118 := Tryz.func118
abbrev F.expr_subtracted : Nat := 119
theorem D.expr_subtracted : T.prog.funcs[F.expr_subtracted]? = some Tryz.f119 := Tryz.func119
abbrev F.expr_multiplied : Nat := 120
theorem D.expr_multiplied : T.prog.funcs[F.expr_multiplied]? = some Tryz.f120 := Tryz.func120
abbrev F.expr_operand_equals : Nat := 121
theorem D.expr_operand_equals : T.prog.funcs[F.expr_operand_equals]? = some Tryz.f121 := Tryz.func121
abbrev F.word_Int : Nat := 122
theorem D.word_Int : T.prog.funcs[F.word_Int]? = some Tryz.f122 := Tryz.func122
abbrev F.elem_Find : Nat := 128
theorem D.elem_Find : T.prog.funcs[F.elem_Find]? = some Tryz.f128 := Tryz.func128
abbrev F.syntax_number : Nat := 129
theorem D.syntax_number : T.prog.funcs[F.syntax_number]? = some Tryz.f129 := Tryz.func129
abbrev F.strings_HasPrefix : Nat := 130
theorem D.strings_HasPrefix : T.prog.funcs[F.strings_HasPrefix]? = some Tryz.f130 := Tryz.func130
abbrev F.syntax_Run_1 : Nat := 131
abbrev F.psyntax_Parser_term : Nat := 132
theorem D.psyntax_Parser_term : T.prog.funcs[F.psyntax_Parser_term]? = some Tryz.f132 := Tryz.func132
abbrev F.psyntax_Parser_Accept : Nat := 133
theorem D.psyntax_Parser_Accept : T.prog.funcs[F.psyntax_Parser_Accept]? = some Tryz.f133 := Tryz.func133
abbrev F.syntax_node : Nat := 134
theorem D.syntax_node : T.prog.funcs[F.syntax_node]? = some Tryz.f134 := Tryz.func134
abbrev F.psyntax_Parser_Fail : Nat := 135
theorem D.psyntax_Parser_Fail : T.prog.funcs[F.psyntax_Parser_Fail]? = some Tryz.f135 := Tryz.func135
abbrev F.strings_Cut : Nat := 136
theorem D.strings_Cut : T.prog.funcs[F.strings_Cut]? = some Tryz.f136 := Tryz.func136
abbrev F.strings_Trim : Nat := 137
theorem D.strings_Trim : T.prog.funcs[F.strings_Trim]? = some Tryz.f137 := Tryz.func137
abbrev F.number_Parse : Nat := 138
theorem D.number_Parse : T.prog.funcs[F.number_Parse]? = some Tryz.f138 := Tryz.func138
abbrev F.expr_write : Nat := 139
theorem D.expr_write : T.prog.funcs[F.expr_write]? = some Tryz.f139 := Tryz.func139
abbrev F.pstrings_Builder_String : Nat := 140
theorem D.pstrings_Builder_String : T.prog.funcs[F.pstrings_Builder_String]? = some Tryz.f140 := Tryz.func140
abbrev F.ref01_small : Nat := 141
theorem D.ref01_small : T.prog.funcs[F.ref01_small]? = some Tryz.f141 := Tryz.func141
abbrev F.ref01_NatShl : Nat := 142
theorem D.ref01_NatShl : T.prog.funcs[F.ref01_NatShl]? = some Tryz.f142 := Tryz.func142
abbrev F.ref01_digit : Nat := 143
theorem D.ref01_digit : T.prog.funcs[F.ref01_digit]? = some Tryz.f143 := Tryz.func143
abbrev F.ref01_NatShr : Nat := 144
theorem D.ref01_NatShr : T.prog.funcs[F.ref01_NatShr]? = some Tryz.f144 := Tryz.func144
abbrev F.number_one : Nat := 145
theorem D.number_one : T.prog.funcs[F.number_one]? = some Tryz.f145 := Tryz.func145
abbrev F.number_Canon_1 : Nat := 146
theorem D.number_Canon_1 : T.prog.funcs[F.number_Canon_1]? = some Tryz.f146 := Tryz.func146
abbrev F.number_Sign : Nat := 147
theorem D.number_Sign : T.prog.funcs[F.number_Sign]? = some Tryz.f147 := Tryz.func147
abbrev F.expr_unary : Nat := 148
theorem D.expr_unary : T.prog.funcs[F.expr_unary]? = some Tryz.f148 := Tryz.func148
abbrev F.expr_binary : Nat := 149
theorem D.expr_binary : T.prog.funcs[F.expr_binary]? = some Tryz.f149 := Tryz.func149
abbrev F.expr_kids : Nat := 154
theorem D.expr_kids : T.prog.funcs[F.expr_kids]? = some Tryz.f154 := Tryz.func154
abbrev F.word_Of : Nat := 155
theorem D.word_Of : T.prog.funcs[F.word_Of]? = some Tryz.f155 := Tryz.func155
abbrev F.word_Nat_Zero : Nat := 156
theorem D.word_Nat_Zero : T.prog.funcs[F.word_Nat_Zero]? = some Tryz.f156 := Tryz.func156
abbrev F.word_Read : Nat := 157
theorem D.word_Read : T.prog.funcs[F.word_Read]? = some Tryz.f157 := Tryz.func157
abbrev F.syntax_letter : Nat := 161
theorem D.syntax_letter : T.prog.funcs[F.syntax_letter]? = some Tryz.f161 := Tryz.func161
abbrev F.syntax_digit : Nat := 162
theorem D.syntax_digit : T.prog.funcs[F.syntax_digit]? = some Tryz.f162 := Tryz.func162
abbrev F.word_Frac_Give : Nat := 163
theorem D.word_Frac_Give : T.prog.funcs[F.word_Frac_Give]? = some Tryz.f163 := Tryz.func163
abbrev F.word_Nat_Pow : Nat := 164
theorem D.word_Nat_Pow : T.prog.funcs[F.word_Nat_Pow]? = some Tryz.f164 := Tryz.func164
abbrev F.word_Frac_Add : Nat := 165
theorem D.word_Frac_Add : T.prog.funcs[F.word_Frac_Add]? = some Tryz.f165 := Tryz.func165
abbrev F.word_Frac_Mul : Nat := 166
theorem D.word_Frac_Mul : T.prog.funcs[F.word_Frac_Mul]? = some Tryz.f166 := Tryz.func166
abbrev F.word_Frac_Cmp : Nat := 167
theorem D.word_Frac_Cmp : T.prog.funcs[F.word_Frac_Cmp]? = some Tryz.f167 := Tryz.func167
abbrev F.word_Small : Nat := 168
theorem D.word_Small : T.prog.funcs[F.word_Small]? = some Tryz.f168 := Tryz.func168
abbrev F.elem_names : Nat := 172
theorem D.elem_names : T.prog.funcs[F.elem_names]? = some Tryz.f172 := Tryz.func172
abbrev F.syntax_digits : Nat := 173
theorem D.syntax_digits : T.prog.funcs[F.syntax_digits]? = some Tryz.f173 := Tryz.func173
abbrev F.internal_stringslite_HasPrefix : Nat := 174
theorem D.internal_stringslite_HasPrefix : T.prog.funcs[F.internal_stringslite_HasPrefix]? = some Tryz.f174 := Tryz.func174
abbrev F.psyntax_Parser_factor : Nat := 175
theorem D.psyntax_Parser_factor : T.prog.funcs[F.psyntax_Parser_factor]? = some Tryz.f175 := Tryz.func175
abbrev F.psyntax_Parser_At : Nat := 176
theorem D.psyntax_Parser_At : T.prog.funcs[F.psyntax_Parser_At]? = some Tryz.f176 := Tryz.func176
abbrev F.internal_stringslite_Cut : Nat := 177
theorem D.internal_stringslite_Cut : T.prog.funcs[F.internal_stringslite_Cut]? = some Tryz.f177 := Tryz.func177
abbrev F.strings_trimLeftByte : Nat := 178
theorem D.strings_trimLeftByte : T.prog.funcs[F.strings_trimLeftByte]? = some Tryz.f178 := Tryz.func178
abbrev F.strings_trimRightByte : Nat := 179
theorem D.strings_trimRightByte : T.prog.funcs[F.strings_trimRightByte]? = some Tryz.f179 := Tryz.func179
abbrev F.number_run : Nat := 185
theorem D.number_run : T.prog.funcs[F.number_run]? = some Tryz.f185 := Tryz.func185
abbrev F.word_Reduce : Nat := 186
theorem D.word_Reduce : T.prog.funcs[F.word_Reduce]? = some Tryz.f186 := Tryz.func186
abbrev F.number_natural : Nat := 187
theorem D.number_natural : T.prog.funcs[F.number_natural]? = some Tryz.f187 := Tryz.func187
abbrev F.number_Format : Nat := 188
theorem D.number_Format : T.prog.funcs[F.number_Format]? = some Tryz.f188 := Tryz.func188
abbrev F.pstrings_Builder_WriteString : Nat := 189
theorem D.pstrings_Builder_WriteString : T.prog.funcs[F.pstrings_Builder_WriteString]? = some Tryz.f189 := Tryz.func189
abbrev F.expr_place : Nat := 190
theorem D.expr_place : T.prog.funcs[F.expr_place]? = some Tryz.f190 := Tryz.func190
abbrev F.expr_infix : Nat := 191
theorem D.expr_infix : T.prog.funcs[F.expr_infix]? = some Tryz.f191 := Tryz.func191
abbrev F.strconv_Itoa : Nat := 192
abbrev F.expr_list : Nat := 193
theorem D.expr_list : T.prog.funcs[F.expr_list]? = some Tryz.f193 := Tryz.func193
abbrev F.ref01_less : Nat := 194
theorem D.ref01_less : T.prog.funcs[F.ref01_less]? = some Tryz.f194 := Tryz.func194
abbrev F.expr_done : Nat := 195
theorem D.expr_done : T.prog.funcs[F.expr_done]? = some Tryz.f195 := Tryz.func195
abbrev F.number_Neg : Nat := 196
theorem D.number_Neg : T.prog.funcs[F.number_Neg]? = some Tryz.f196 := Tryz.func196
abbrev F.number_Pow : Nat := 197
theorem D.number_Pow : T.prog.funcs[F.number_Pow]? = some Tryz.f197 := Tryz.func197
abbrev F.number_Abs : Nat := 198
theorem D.number_Abs : T.prog.funcs[F.number_Abs]? = some Tryz.f198 := Tryz.func198
abbrev F.number_Root : Nat := 199
theorem D.number_Root : T.prog.funcs[F.number_Root]? = some Tryz.f199 := Tryz.func199
abbrev F.elem_Exact : Nat := 200
theorem D.elem_Exact : T.prog.funcs[F.elem_Exact]? = some Tryz.f200 := Tryz.func200
abbrev F.number_Add : Nat := 201
theorem D.number_Add : T.prog.funcs[F.number_Add]? = some Tryz.f201 := Tryz.func201
abbrev F.number_Sub : Nat := 202
theorem D.number_Sub : T.prog.funcs[F.number_Sub]? = some Tryz.f202 := Tryz.func202
abbrev F.number_Mul : Nat := 203
theorem D.number_Mul : T.prog.funcs[F.number_Mul]? = some Tryz.f203 := Tryz.func203
abbrev F.number_Div : Nat := 204
theorem D.number_Div : T.prog.funcs[F.number_Div]? = some Tryz.f204 := Tryz.func204
abbrev F.number_Compare : Nat := 205
theorem D.number_Compare : T.prog.funcs[F.number_Compare]? = some Tryz.f205 := Tryz.func205
abbrev F.word_Frac_Fits : Nat := 206
theorem D.word_Frac_Fits : T.prog.funcs[F.word_Frac_Fits]? = some Tryz.f206 := Tryz.func206
abbrev F.math_bits_Len32 : Nat := 216
theorem D.math_bits_Len32 : T.prog.funcs[F.math_bits_Len32]? = some Tryz.f216 := Tryz.func216
abbrev F.math_bits_Len64 : Nat := 217
abbrev F.slices_Clone_of__of_uint32_uint32 : Nat := 218
theorem D.slices_Clone_of__of_uint32_uint32 : T.prog.funcs[F.slices_Clone_of__of_uint32_uint32]? = some Tryz.f218 := Tryz.func218
abbrev F.word_Nat_One : Nat := 219
theorem D.word_Nat_One : T.prog.funcs[F.word_Nat_One]? = some Tryz.f219 := Tryz.func219
abbrev F.word_Nat_Mul : Nat := 220
theorem D.word_Nat_Mul : T.prog.funcs[F.word_Nat_Mul]? = some Tryz.f220 := Tryz.func220
abbrev F.word_Nat_Add : Nat := 221
theorem D.word_Nat_Add : T.prog.funcs[F.word_Nat_Add]? = some Tryz.f221 := Tryz.func221
abbrev F.word_Nat_Cmp : Nat := 222
theorem D.word_Nat_Cmp : T.prog.funcs[F.word_Nat_Cmp]? = some Tryz.f222 := Tryz.func222
abbrev F.word_Nat_Sub : Nat := 223
theorem D.word_Nat_Sub : T.prog.funcs[F.word_Nat_Sub]? = some Tryz.f223 := Tryz.func223
abbrev F.psyntax_Parser_atom : Nat := 226
theorem D.psyntax_Parser_atom : T.prog.funcs[F.psyntax_Parser_atom]? = some Tryz.f226 := Tryz.func226
abbrev F.psyntax_Parser_count : Nat := 227
theorem D.psyntax_Parser_count : T.prog.funcs[F.psyntax_Parser_count]? = some Tryz.f227 := Tryz.func227
abbrev F.internal_stringslite_Index : Nat := 228
theorem D.internal_stringslite_Index : T.prog.funcs[F.internal_stringslite_Index]? = some Tryz.f228 := Tryz.func228
abbrev F.word_Nat_Twos : Nat := 233
theorem D.word_Nat_Twos : T.prog.funcs[F.word_Nat_Twos]? = some Tryz.f233 := Tryz.func233
abbrev F.word_Nat_Shr : Nat := 234
theorem D.word_Nat_Shr : T.prog.funcs[F.word_Nat_Shr]? = some Tryz.f234 := Tryz.func234
abbrev F.word_Nat_Bits : Nat := 235
theorem D.word_Nat_Bits : T.prog.funcs[F.word_Nat_Bits]? = some Tryz.f235 := Tryz.func235
abbrev F.word_Nat_GCD : Nat := 236
theorem D.word_Nat_GCD : T.prog.funcs[F.word_Nat_GCD]? = some Tryz.f236 := Tryz.func236
abbrev F.word_Nat_Div : Nat := 237
theorem D.word_Nat_Div : T.prog.funcs[F.word_Nat_Div]? = some Tryz.f237 := Tryz.func237
abbrev F.number_decimal : Nat := 238
theorem D.number_decimal : T.prog.funcs[F.number_decimal]? = some Tryz.f238 := Tryz.func238
abbrev F.pstrings_Builder_copyCheck : Nat := 239
abbrev F.expr_level : Nat := 240
theorem D.expr_level : T.prog.funcs[F.expr_level]? = some Tryz.f240 := Tryz.func240
abbrev F.internal_strconv_Itoa : Nat := 241
abbrev F.elem_Name : Nat := 242
theorem D.elem_Name : T.prog.funcs[F.elem_Name]? = some Tryz.f242 := Tryz.func242
abbrev F.number_Abs_1 : Nat := 243
theorem D.number_Abs_1 : T.prog.funcs[F.number_Abs_1]? = some Tryz.f243 := Tryz.func243
abbrev F.word_Nat_Root : Nat := 244
theorem D.word_Nat_Root : T.prog.funcs[F.word_Nat_Root]? = some Tryz.f244 := Tryz.func244
abbrev F.elem_known : Nat := 245
theorem D.elem_known : T.prog.funcs[F.elem_known]? = some Tryz.f245 := Tryz.func245
abbrev F.elem_exact : Nat := 246
theorem D.elem_exact : T.prog.funcs[F.elem_exact]? = some Tryz.f246 := Tryz.func246
abbrev F.number_two : Nat := 247
theorem D.number_two : T.prog.funcs[F.number_two]? = some Tryz.f247 := Tryz.func247
abbrev F.number_Sub_1 : Nat := 248
theorem D.number_Sub_1 : T.prog.funcs[F.number_Sub_1]? = some Tryz.f248 := Tryz.func248
abbrev F.psyntax_Parser_Next : Nat := 255
theorem D.psyntax_Parser_Next : T.prog.funcs[F.psyntax_Parser_Next]? = some Tryz.f255 := Tryz.func255
abbrev F.psyntax_Parser_kids : Nat := 256
theorem D.psyntax_Parser_kids : T.prog.funcs[F.psyntax_Parser_kids]? = some Tryz.f256 := Tryz.func256
abbrev F.psyntax_Parser_Want : Nat := 257
theorem D.psyntax_Parser_Want : T.prog.funcs[F.psyntax_Parser_Want]? = some Tryz.f257 := Tryz.func257
abbrev F.psyntax_Parser_Number : Nat := 258
theorem D.psyntax_Parser_Number : T.prog.funcs[F.psyntax_Parser_Number]? = some Tryz.f258 := Tryz.func258
abbrev F.internal_stringslite_IndexByte : Nat := 259
abbrev F.math_bits_TrailingZeros32 : Nat := 266
theorem D.math_bits_TrailingZeros32 : T.prog.funcs[F.math_bits_TrailingZeros32]? = some Tryz.f266 := Tryz.func266
abbrev F.word_Nat_DivSmall : Nat := 267
theorem D.word_Nat_DivSmall : T.prog.funcs[F.word_Nat_DivSmall]? = some Tryz.f267 := Tryz.func267
abbrev F.math_bits_LeadingZeros32 : Nat := 268
theorem D.math_bits_LeadingZeros32 : T.prog.funcs[F.math_bits_LeadingZeros32]? = some Tryz.f268 := Tryz.func268
abbrev F.word_Nat_Shl : Nat := 269
theorem D.word_Nat_Shl : T.prog.funcs[F.word_Nat_Shl]? = some Tryz.f269 := Tryz.func269
abbrev F.word_digit : Nat := 270
theorem D.word_digit : T.prog.funcs[F.word_digit]? = some Tryz.f270 := Tryz.func270
abbrev F.slices_Reverse_of__of_byte_byte : Nat := 271
theorem D.slices_Reverse_of__of_byte_byte : T.prog.funcs[F.slices_Reverse_of__of_byte_byte]? = some Tryz.f271 := Tryz.func271
abbrev F.internal_strconv_FormatInt : Nat := 273
abbrev F.number_FromInt : Nat := 274
theorem D.number_FromInt : T.prog.funcs[F.number_FromInt]? = some Tryz.f274 := Tryz.func274
abbrev F.elem_isOne : Nat := 275
theorem D.elem_isOne : T.prog.funcs[F.elem_isOne]? = some Tryz.f275 := Tryz.func275
abbrev F.internal_strconv_small : Nat := 281
abbrev F.internal_strconv_numDigits : Nat := 282
abbrev F.internal_strconv_formatBase10 : Nat := 283
abbrev F.internal_strconv_formatBits : Nat := 284
abbrev F.internal_strconv_log10Pow2 : Nat := 285
abbrev F.internal_strconv_bool2_of_int : Nat := 286
abbrev F.internal_strconv_isPowerOfTwo : Nat := 287
abbrev F.math_bits_TrailingZeros : Nat := 288
abbrev F.math_bits_TrailingZeros64 : Nat := 289
abbrev Ty.int64 : Nat := 2
abbrev Ty.int : Nat := 3
abbrev Ty.bool : Nat := 4
abbrev Ty.uint8 : Nat := 5
abbrev Ty.int32 : Nat := 21
abbrev Ty.api_Rat : Nat := 24
abbrev Ty.api_Expr : Nat := 27
abbrev Ty.api_Errno : Nat := 28
abbrev Ty.ref01_Nat : Nat := 35
abbrev Ty.ref01_Q : Nat := 37
abbrev Ty.law04_Parts : Nat := 41
abbrev Ty.uint64 : Nat := 68
abbrev Ty.syntax_Fault : Nat := 99
abbrev Ty.uint32 : Nat := 104
abbrev Ty.api_Value : Nat := 111
abbrev Ty.word_Nat : Nat := 123
abbrev Ty.word_Frac : Nat := 125
abbrev Ty.expr_operand : Nat := 134
abbrev Ty.syntax_Token : Nat := 142
abbrev Ty.syntax_Parser : Nat := 148
abbrev Ty.syntax_count : Nat := 155
abbrev Gl.internal_bytealg_MaxLen : Nat := 0
abbrev Gl.unicode_utf8_first : Nat := 1
abbrev Gl.unicode_utf8_acceptRanges : Nat := 2
abbrev Gl.math_bits_deBruijn32tab : Nat := 3
abbrev Gl.internal_strconv_uint64pow10 : Nat := 4
abbrev Gl.math_bits_deBruijn64tab : Nat := 5
end Go.Proofs.YtbgicephinomlaaGreatDoor