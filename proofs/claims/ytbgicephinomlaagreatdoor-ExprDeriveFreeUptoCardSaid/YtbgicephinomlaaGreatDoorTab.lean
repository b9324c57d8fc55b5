/- The tables of this seat's translation as the engine wants them: the types' shapes and zero values, the functions' numbers by name. Printed by program; every row is checked by Lean. -/
import Derived.Test.YtbgicephinomlaaGreatDoorProg
import Derived.Test.YtbgicephinomlaaGreatDoorVcRule
import Derived.KernelRfl
set_option linter.unusedVariables false
set_option linter.unusedSimpArgs false
set_option maxRecDepth 100000
namespace Go.Proofs.YtbgicephinomlaaGreatDoor
open Go Go.Vc
inductive BT (α : Type) where
  | leaf
  | node (l : BT α) (k : Nat) (x : α) (r : BT α)
def look {α : Type} : BT α → Nat → Option α
  | .leaf, _ => none
  | .node l k x r, t => match Nat.beq t k with
    | true => some x
    | false => match Nat.blt t k with
      | true => look l t
      | false => look r t
def BT.toL {α : Type} : BT α → List (Nat × α)
  | .leaf => []
  | .node l k x r => l.toL ++ (k, x) :: r.toL
theorem look_mem {α : Type} : ∀ {b : BT α} {t : Nat} {x : α}, look b t = some x → (t, x) ∈ b.toL
  | .leaf, _, _, h => by simp [look] at h
  | .node l k y r, t, x, h => by
    simp only [look] at h
    split at h
    · rename_i e
      obtain rfl := Nat.eq_of_beq_eq_true e
      cases h; simp [BT.toL]
    · split at h
      · exact List.mem_append_left _ (look_mem h)
      · exact List.mem_append_right _ (List.mem_cons_of_mem _ (look_mem h))
def undB : BT TypeDesc := (.node (.node (.node (.node (.node (.node .leaf 1 (.func #[] #[] false) .leaf) 2 (.int .i64) .leaf) 3 (.int .i64) (.node (.node .leaf 4 (.bool) .leaf) 5 (.int .u8) .leaf)) 9 (.string) (.node (.node (.node .leaf 22 (.slice 104) .leaf) 24 (.struct #[⟨"Neg", 4, 0, false, "", "", 0⟩, ⟨"Num", 22, 1, false, "", "", 8⟩, ⟨"Den", 22, 2, false, "", "", 32⟩]) .leaf) 25 (.slice 27) (.node (.node .leaf 27 (.struct #[⟨"Op", 3, 0, false, "", "", 0⟩, ⟨"Arg", 3, 1, false, "", "", 8⟩, ⟨"Num", 24, 2, false, "", "", 16⟩, ⟨"Name", 9, 5, false, "", "", 72⟩, ⟨"Kids", 25, 6, false, "", "", 88⟩]) .leaf) 28 (.int .i64) .leaf))) 32 (.func #[] #[4] false) (.node (.node (.node (.node .leaf 35 (.slice 104) .leaf) 37 (.struct #[⟨"Neg", 4, 0, false, "", "", 0⟩, ⟨"N", 35, 1, false, "", "", 8⟩, ⟨"D", 35, 2, false, "", "", 32⟩]) .leaf) 48 (.func #[27] #[4] false) (.node (.node .leaf 51 (.slice 9) .leaf) 65 (.func #[27] #[9, 28] false) .leaf)) 68 (.int .u64) (.node (.node (.node .leaf 76 (.func #[48] #[] false) .leaf) 93 (.slice 142) .leaf) 96 (.pointer 148) (.node .leaf 99 (.struct #[⟨"Err", 28, 0, false, "", "", 0⟩, ⟨"At", 3, 1, false, "", "", 8⟩]) .leaf)))) 104 (.int .u32) (.node (.node (.node (.node (.node .leaf 123 (.slice 104) .leaf) 125 (.struct #[⟨"Neg", 4, 0, false, "", "", 0⟩, ⟨"Num", 123, 1, false, "", "", 8⟩, ⟨"Den", 123, 2, false, "", "", 32⟩]) .leaf) 134 (.struct #[⟨"e", 27, 0, false, "", "inequality/expr", 0⟩, ⟨"x", 125, 7, false, "", "inequality/expr", 112⟩, ⟨"is", 4, 10, false, "", "inequality/expr", 168⟩]) (.node (.node .leaf 142 (.struct #[⟨"Kind", 3, 0, false, "", "", 0⟩, ⟨"Text", 9, 1, false, "", "", 8⟩, ⟨"At", 3, 2, false, "", "", 24⟩]) .leaf) 146 (.slice 155) .leaf)) 148 (.struct #[⟨"tokens", 93, 0, false, "", "inequality/syntax", 0⟩, ⟨"next", 3, 1, false, "", "inequality/syntax", 24⟩, ⟨"end", 3, 2, false, "", "inequality/syntax", 32⟩, ⟨"counts", 146, 3, false, "", "inequality/syntax", 40⟩]) (.node (.node (.node .leaf 149 (.slice 99) .leaf) 155 (.struct #[⟨"at", 3, 0, false, "", "inequality/syntax", 0⟩, ⟨"low", 3, 1, false, "", "inequality/syntax", 8⟩, ⟨"high", 3, 2, false, "", "inequality/syntax", 16⟩, ⟨"n", 3, 3, false, "", "inequality/syntax", 24⟩]) .leaf) 156 (.pointer 159) (.node (.node .leaf 157 (.slice 5) .leaf) 159 (.struct #[⟨"addr", 156, 0, false, "", "strings", 0⟩, ⟨"buf", 157, 1, false, "", "strings", 8⟩]) .leaf))) 164 (.int .u64) (.node (.node (.node (.node .leaf 168 (.func #[125] #[125] false) .leaf) 190 (.array 256 4) .leaf) 194 (.pointer 190) (.node (.node .leaf 207 (.pointer 5) .leaf) 236 (.map 3 9) .leaf)) 274 (.array 32 5) (.node (.node (.node .leaf 275 (.array 24 5) .leaf) 280 (.array 20 68) .leaf) 281 (.array 65 5) (.node .leaf 282 (.array 64 5) .leaf)))))
def infB : BT (List Value × Nat) := (.node (.node (.node (.node (.node (.node .leaf 1 ([.nilFunc], 8) .leaf) 2 ([.int .i64 0], 8) .leaf) 3 ([.int .i64 0], 8) (.node (.node .leaf 4 ([.bool false], 1) .leaf) 5 ([.int .u8 0], 1) .leaf)) 9 ([.string ByteArray.empty], 16) (.node (.node (.node .leaf 22 ([.slice none 0 0], 24) .leaf) 24 ([.bool false, .slice none 0 0, .slice none 0 0], 56) .leaf) 25 ([.slice none 0 0], 24) (.node (.node .leaf 27 ([.int .i64 0, .int .i64 0, .bool false, .slice none 0 0, .slice none 0 0, .string ByteArray.empty, .slice none 0 0], 112) .leaf) 28 ([.int .i64 0], 8) .leaf))) 32 ([.nilFunc], 8) (.node (.node (.node (.node .leaf 35 ([.slice none 0 0], 24) .leaf) 37 ([.bool false, .slice none 0 0, .slice none 0 0], 56) .leaf) 48 ([.nilFunc], 8) (.node (.node .leaf 51 ([.slice none 0 0], 24) .leaf) 65 ([.nilFunc], 8) .leaf)) 68 ([.int .u64 0], 8) (.node (.node (.node .leaf 76 ([.nilFunc], 8) .leaf) 93 ([.slice none 0 0], 24) .leaf) 96 ([.pointer none], 8) (.node .leaf 99 ([.int .i64 0, .int .i64 0], 16) .leaf)))) 104 ([.int .u32 0], 4) (.node (.node (.node (.node (.node .leaf 123 ([.slice none 0 0], 24) .leaf) 125 ([.bool false, .slice none 0 0, .slice none 0 0], 56) .leaf) 134 ([.int .i64 0, .int .i64 0, .bool false, .slice none 0 0, .slice none 0 0, .string ByteArray.empty, .slice none 0 0, .bool false, .slice none 0 0, .slice none 0 0, .bool false], 176) (.node (.node .leaf 142 ([.int .i64 0, .string ByteArray.empty, .int .i64 0], 32) .leaf) 146 ([.slice none 0 0], 24) .leaf)) 148 ([.slice none 0 0, .int .i64 0, .int .i64 0, .slice none 0 0], 64) (.node (.node (.node .leaf 149 ([.slice none 0 0], 24) .leaf) 155 ([.int .i64 0, .int .i64 0, .int .i64 0, .int .i64 0], 32) .leaf) 156 ([.pointer none], 8) (.node .leaf 157 ([.slice none 0 0], 24) .leaf))) 159 ([.pointer none, .slice none 0 0], 32) (.node (.node (.node (.node .leaf 164 ([.int .u64 0], 8) .leaf) 168 ([.nilFunc], 8) .leaf) 194 ([.pointer none], 8) (.node (.node .leaf 207 ([.pointer none], 8) .leaf) 236 ([.map none], 8) .leaf)) 260 ([.pointer none], 8) (.node (.node (.node .leaf 274 ([.int .u8 0, .int .u8 0, .int .u8 0, .int .u8 0, .int .u8 0, .int .u8 0, .int .u8 0, .int .u8 0, .int .u8 0, .int .u8 0, .int .u8 0, .int .u8 0, .int .u8 0, .int .u8 0, .int .u8 0, .int .u8 0, .int .u8 0, .int .u8 0, .int .u8 0, .int .u8 0, .int .u8 0, .int .u8 0, .int .u8 0, .int .u8 0, .int .u8 0, .int .u8 0, .int .u8 0, .int .u8 0, .int .u8 0, .int .u8 0, .int .u8 0, .int .u8 0], 32) .leaf) 275 ([.int .u8 0, .int .u8 0, .int .u8 0, .int .u8 0, .int .u8 0, .int .u8 0, .int .u8 0, .int .u8 0, .int .u8 0, .int .u8 0, .int .u8 0, .int .u8 0, .int .u8 0, .int .u8 0, .int .u8 0, .int .u8 0, .int .u8 0, .int .u8 0, .int .u8 0, .int .u8 0, .int .u8 0, .int .u8 0, .int .u8 0, .int .u8 0], 24) .leaf) 280 ([.int .u64 0, .int .u64 0, .int .u64 0, .int .u64 0, .int .u64 0, .int .u64 0, .int .u64 0, .int .u64 0, .int .u64 0, .int .u64 0, .int .u64 0, .int .u64 0, .int .u64 0, .int .u64 0, .int .u64 0, .int .u64 0, .int .u64 0, .int .u64 0, .int .u64 0, .int .u64 0], 160) (.node .leaf 282 ([.int .u8 0, .int .u8 0, .int .u8 0, .int .u8 0, .int .u8 0, .int .u8 0, .int .u8 0, .int .u8 0, .int .u8 0, .int .u8 0, .int .u8 0, .int .u8 0, .int .u8 0, .int .u8 0, .int .u8 0, .int .u8 0, .int .u8 0, .int .u8 0, .int .u8 0, .int .u8 0, .int .u8 0, .int .u8 0, .int .u8 0, .int .u8 0, .int .u8 0, .int .u8 0, .int .u8 0, .int .u8 0, .int .u8 0, .int .u8 0, .int .u8 0, .int .u8 0, .int .u8 0, .int .u8 0, .int .u8 0, .int .u8 0, .int .u8 0, .int .u8 0, .int .u8 0, .int .u8 0, .int .u8 0, .int .u8 0, .int .u8 0, .int .u8 0, .int .u8 0, .int .u8 0, .int .u8 0, .int .u8 0, .int .u8 0, .int .u8 0, .int .u8 0, .int .u8 0, .int .u8 0, .int .u8 0, .int .u8 0, .int .u8 0, .int .u8 0, .int .u8 0, .int .u8 0, .int .u8 0, .int .u8 0, .int .u8 0, .int .u8 0, .int .u8 0], 64) .leaf)))))
def fnB : BT Unit := (.node (.node (.node (.node (.node (.node (.node (.node .leaf 3 () .leaf) 4 () (.node .leaf 7 () .leaf)) 8 () (.node (.node .leaf 9 () .leaf) 10 () .leaf)) 11 () (.node (.node (.node .leaf 12 () .leaf) 13 () .leaf) 16 () (.node (.node .leaf 18 () .leaf) 25 () .leaf))) 27 () (.node (.node (.node (.node .leaf 28 () .leaf) 29 () (.node .leaf 30 () .leaf)) 31 () (.node (.node .leaf 32 () .leaf) 33 () .leaf)) 34 () (.node (.node (.node .leaf 35 () .leaf) 36 () .leaf) 37 () (.node (.node .leaf 38 () .leaf) 39 () .leaf)))) 40 () (.node (.node (.node (.node (.node .leaf 41 () .leaf) 42 () (.node .leaf 43 () .leaf)) 45 () (.node (.node .leaf 46 () .leaf) 47 () .leaf)) 48 () (.node (.node (.node .leaf 49 () .leaf) 50 () .leaf) 52 () (.node (.node .leaf 56 () .leaf) 57 () .leaf))) 58 () (.node (.node (.node (.node .leaf 59 () .leaf) 60 () (.node .leaf 61 () .leaf)) 62 () (.node (.node .leaf 63 () .leaf) 64 () .leaf)) 65 () (.node (.node (.node .leaf 66 () .leaf) 67 () .leaf) 68 () (.node (.node .leaf 69 () .leaf) 70 () .leaf))))) 71 () (.node (.node (.node (.node (.node (.node .leaf 72 () .leaf) 73 () (.node .leaf 74 () .leaf)) 75 () (.node (.node .leaf 76 () .leaf) 77 () .leaf)) 78 () (.node (.node (.node .leaf 79 () .leaf) 80 () .leaf) 81 () (.node (.node .leaf 82 () .leaf) 83 () .leaf))) 84 () (.node (.node (.node (.node .leaf 85 () .leaf) 86 () (.node .leaf 87 () .leaf)) 88 () (.node (.node .leaf 89 () .leaf) 90 () .leaf)) 91 () (.node (.node (.node .leaf 92 () .leaf) 94 () .leaf) 95 () (.node (.node .leaf 96 () .leaf) 97 () .leaf)))) 98 () (.node (.node (.node (.node (.node .leaf 99 () .leaf) 100 () (.node .leaf 101 () .leaf)) 102 () (.node (.node .leaf 103 () .leaf) 108 () .leaf)) 109 () (.node (.node (.node .leaf 110 () .leaf) 111 () .leaf) 112 () (.node (.node .leaf 113 () .leaf) 114 () .leaf))) 115 () (.node (.node (.node (.node .leaf 116 () .leaf) 117 () .leaf) 118 () (.node (.node .leaf 119 () .leaf) 120 () .leaf)) 121 () (.node (.node (.node .leaf 122 () .leaf) 123 () .leaf) 124 () (.node (.node .leaf 125 () .leaf) 126 () .leaf)))))) 127 () (.node (.node (.node (.node (.node (.node (.node .leaf 128 () .leaf) 129 () (.node .leaf 130 () .leaf)) 131 () (.node (.node .leaf 132 () .leaf) 133 () .leaf)) 134 () (.node (.node (.node .leaf 135 () .leaf) 136 () .leaf) 137 () (.node (.node .leaf 138 () .leaf) 139 () .leaf))) 140 () (.node (.node (.node (.node .leaf 141 () .leaf) 142 () (.node .leaf 143 () .leaf)) 144 () (.node (.node .leaf 145 () .leaf) 146 () .leaf)) 150 () (.node (.node (.node .leaf 151 () .leaf) 152 () .leaf) 153 () (.node (.node .leaf 154 () .leaf) 155 () .leaf)))) 156 () (.node (.node (.node (.node (.node .leaf 157 () .leaf) 161 () (.node .leaf 162 () .leaf)) 163 () (.node (.node .leaf 164 () .leaf) 165 () .leaf)) 166 () (.node (.node (.node .leaf 167 () .leaf) 168 () .leaf) 169 () (.node (.node .leaf 170 () .leaf) 171 () .leaf))) 172 () (.node (.node (.node (.node .leaf 173 () .leaf) 174 () .leaf) 175 () (.node (.node .leaf 176 () .leaf) 177 () .leaf)) 178 () (.node (.node (.node .leaf 179 () .leaf) 185 () .leaf) 186 () (.node (.node .leaf 187 () .leaf) 188 () .leaf))))) 189 () (.node (.node (.node (.node (.node (.node .leaf 190 () .leaf) 191 () (.node .leaf 192 () .leaf)) 193 () (.node (.node .leaf 194 () .leaf) 206 () .leaf)) 216 () (.node (.node (.node .leaf 217 () .leaf) 218 () .leaf) 219 () (.node (.node .leaf 220 () .leaf) 221 () .leaf))) 222 () (.node (.node (.node (.node .leaf 223 () .leaf) 224 () (.node .leaf 225 () .leaf)) 226 () (.node (.node .leaf 227 () .leaf) 228 () .leaf)) 233 () (.node (.node (.node .leaf 234 () .leaf) 235 () .leaf) 236 () (.node (.node .leaf 237 () .leaf) 238 () .leaf)))) 239 () (.node (.node (.node (.node (.node .leaf 240 () .leaf) 241 () (.node .leaf 242 () .leaf)) 255 () (.node (.node .leaf 256 () .leaf) 257 () .leaf)) 258 () (.node (.node (.node .leaf 259 () .leaf) 266 () .leaf) 267 () (.node (.node .leaf 268 () .leaf) 269 () .leaf))) 270 () (.node (.node (.node (.node .leaf 271 () .leaf) 273 () .leaf) 281 () (.node (.node .leaf 282 () .leaf) 283 () .leaf)) 284 () (.node (.node (.node .leaf 285 () .leaf) 286 () .leaf) 287 () (.node (.node .leaf 288 () .leaf) 289 () .leaf)))))))
def BT.All {α : Type} (p : Nat × α → Prop) : BT α → Prop
  | .leaf => True
  | .node l k x r => l.All p ∧ p (k, x) ∧ r.All p
theorem lf {α : Type} {p : Nat × α → Prop} : BT.All p .leaf := trivial
theorem nd {α : Type} {p : Nat × α → Prop} {l r : BT α} {k : Nat} {x : α} (a : l.All p) (b : p (k, x)) (c : r.All p) : BT.All p (.node l k x r) := ⟨a, b, c⟩
theorem BT.all_mem {α : Type} {p : Nat × α → Prop} {y : Nat × α} : ∀ {b : BT α}, b.All p → y ∈ b.toL → p y
  | .leaf, _, h => by cases h
  | .node l k x r, ⟨h1, h2, h3⟩, h => by
    rw [BT.toL] at h
    rcases List.mem_append.1 h with h | h
    · exact BT.all_mem h1 h
    · rcases List.mem_cons.1 h with rfl | h
      · exact h2
      · exact BT.all_mem h3 h
noncomputable def T : Tab := { prog := Tryz.prog, und := look undB, inf := look infB, fn := fun f => (look fnB f).isSome, room := False }
theorem undOk : undB.All fun x => Tryz.prog.underlying x.1 = some x.2 := (nd (nd (nd (nd (nd (nd lf Tryz.underlying1 lf) Tryz.underlying2 lf) Tryz.underlying3 (nd (nd lf Tryz.underlying4 lf) Tryz.underlying5 lf)) Tryz.underlying9 (nd (nd (nd lf Tryz.underlying22 lf) Tryz.underlying24 lf) Tryz.underlying25 (nd (nd lf Tryz.underlying27 lf) Tryz.underlying28 lf))) Tryz.underlying32 (nd (nd (nd (nd lf Tryz.underlying35 lf) Tryz.underlying37 lf) Tryz.underlying48 (nd (nd lf Tryz.underlying51 lf) Tryz.underlying65 lf)) Tryz.underlying68 (nd (nd (nd lf Tryz.underlying76 lf) Tryz.underlying93 lf) Tryz.underlying96 (nd lf Tryz.underlying99 lf)))) Tryz.underlying104 (nd (nd (nd (nd (nd lf Tryz.underlying123 lf) Tryz.underlying125 lf) Tryz.underlying134 (nd (nd lf Tryz.underlying142 lf) Tryz.underlying146 lf)) Tryz.underlying148 (nd (nd (nd lf Tryz.underlying149 lf) Tryz.underlying155 lf) Tryz.underlying156 (nd (nd lf Tryz.underlying157 lf) Tryz.underlying159 lf))) Tryz.underlying164 (nd (nd (nd (nd lf Tryz.underlying168 lf) Tryz.underlying190 lf) Tryz.underlying194 (nd (nd lf Tryz.underlying207 lf) Tryz.underlying236 lf)) Tryz.underlying274 (nd (nd (nd lf Tryz.underlying275 lf) Tryz.underlying280 lf) Tryz.underlying281 (nd lf Tryz.underlying282 lf)))))
theorem infOk : infB.All fun x => ∃ i v, Tryz.prog.info? x.1 = some i ∧ i.zero = some v ∧ v.cells = x.2.1.toArray ∧ i.size = x.2.1.length ∧ i.bytes = x.2.2 := (nd (nd (nd (nd (nd (nd lf ⟨Tryz.t1, _, by kernel_rfl, rfl, rfl, rfl, rfl⟩ lf) ⟨Tryz.t2, _, by kernel_rfl, rfl, rfl, rfl, rfl⟩ lf) ⟨Tryz.t3, _, by kernel_rfl, rfl, rfl, rfl, rfl⟩ (nd (nd lf ⟨Tryz.t4, _, by kernel_rfl, rfl, rfl, rfl, rfl⟩ lf) ⟨Tryz.t5, _, by kernel_rfl, rfl, rfl, rfl, rfl⟩ lf)) ⟨Tryz.t9, _, by kernel_rfl, rfl, rfl, rfl, rfl⟩ (nd (nd (nd lf ⟨Tryz.t22, _, by kernel_rfl, rfl, rfl, rfl, rfl⟩ lf) ⟨Tryz.t24, _, by kernel_rfl, rfl, rfl, rfl, rfl⟩ lf) ⟨Tryz.t25, _, by kernel_rfl, rfl, rfl, rfl, rfl⟩ (nd (nd lf ⟨Tryz.t27, _, by kernel_rfl, rfl, rfl, rfl, rfl⟩ lf) ⟨Tryz.t28, _, by kernel_rfl, rfl, rfl, rfl, rfl⟩ lf))) ⟨Tryz.t32, _, by kernel_rfl, rfl, rfl, rfl, rfl⟩ (nd (nd (nd (nd lf ⟨Tryz.t35, _, by kernel_rfl, rfl, rfl, rfl, rfl⟩ lf) ⟨Tryz.t37, _, by kernel_rfl, rfl, rfl, rfl, rfl⟩ lf) ⟨Tryz.t48, _, by kernel_rfl, rfl, rfl, rfl, rfl⟩ (nd (nd lf ⟨Tryz.t51, _, by kernel_rfl, rfl, rfl, rfl, rfl⟩ lf) ⟨Tryz.t65, _, by kernel_rfl, rfl, rfl, rfl, rfl⟩ lf)) ⟨Tryz.t68, _, by kernel_rfl, rfl, rfl, rfl, rfl⟩ (nd (nd (nd lf ⟨Tryz.t76, _, by kernel_rfl, rfl, rfl, rfl, rfl⟩ lf) ⟨Tryz.t93, _, by kernel_rfl, rfl, rfl, rfl, rfl⟩ lf) ⟨Tryz.t96, _, by kernel_rfl, rfl, rfl, rfl, rfl⟩ (nd lf ⟨Tryz.t99, _, by kernel_rfl, rfl, rfl, rfl, rfl⟩ lf)))) ⟨Tryz.t104, _, by kernel_rfl, rfl, rfl, rfl, rfl⟩ (nd (nd (nd (nd (nd lf ⟨Tryz.t123, _, by kernel_rfl, rfl, rfl, rfl, rfl⟩ lf) ⟨Tryz.t125, _, by kernel_rfl, rfl, rfl, rfl, rfl⟩ lf) ⟨Tryz.t134, _, by kernel_rfl, rfl, rfl, rfl, rfl⟩ (nd (nd lf ⟨Tryz.t142, _, by kernel_rfl, rfl, rfl, rfl, rfl⟩ lf) ⟨Tryz.t146, _, by kernel_rfl, rfl, rfl, rfl, rfl⟩ lf)) ⟨Tryz.t148, _, by kernel_rfl, rfl, rfl, rfl, rfl⟩ (nd (nd (nd lf ⟨Tryz.t149, _, by kernel_rfl, rfl, rfl, rfl, rfl⟩ lf) ⟨Tryz.t155, _, by kernel_rfl, rfl, rfl, rfl, rfl⟩ lf) ⟨Tryz.t156, _, by kernel_rfl, rfl, rfl, rfl, rfl⟩ (nd lf ⟨Tryz.t157, _, by kernel_rfl, rfl, rfl, rfl, rfl⟩ lf))) ⟨Tryz.t159, _, by kernel_rfl, rfl, rfl, rfl, rfl⟩ (nd (nd (nd (nd lf ⟨Tryz.t164, _, by kernel_rfl, rfl, rfl, rfl, rfl⟩ lf) ⟨Tryz.t168, _, by kernel_rfl, rfl, rfl, rfl, rfl⟩ lf) ⟨Tryz.t194, _, by kernel_rfl, rfl, rfl, rfl, rfl⟩ (nd (nd lf ⟨Tryz.t207, _, by kernel_rfl, rfl, rfl, rfl, rfl⟩ lf) ⟨Tryz.t236, _, by kernel_rfl, rfl, rfl, rfl, rfl⟩ lf)) ⟨Tryz.t260, _, by kernel_rfl, rfl, rfl, rfl, rfl⟩ (nd (nd (nd lf ⟨Tryz.t274, _, by kernel_rfl, rfl, rfl, rfl, rfl⟩ lf) ⟨Tryz.t275, _, by kernel_rfl, rfl, rfl, rfl, rfl⟩ lf) ⟨Tryz.t280, _, by kernel_rfl, rfl, rfl, rfl, rfl⟩ (nd lf ⟨Tryz.t282, _, by kernel_rfl, rfl, rfl, rfl, rfl⟩ lf)))))
theorem fnOk : fnB.All fun x => ∀ args w, (callFunc x.1 args).run Tryz.prog w = .ok (.enter x.1 args) w := (nd (nd (nd (nd (nd (nd (nd (nd lf Tryz.call3 lf) Tryz.call4 (nd lf Tryz.call7 lf)) Tryz.call8 (nd (nd lf Tryz.call9 lf) Tryz.call10 lf)) Tryz.call11 (nd (nd (nd lf Tryz.call12 lf) Tryz.call13 lf) Tryz.call16 (nd (nd lf Tryz.call18 lf) Tryz.call25 lf))) Tryz.call27 (nd (nd (nd (nd lf Tryz.call28 lf) Tryz.call29 (nd lf Tryz.call30 lf)) Tryz.call31 (nd (nd lf Tryz.call32 lf) Tryz.call33 lf)) Tryz.call34 (nd (nd (nd lf Tryz.call35 lf) Tryz.call36 lf) Tryz.call37 (nd (nd lf Tryz.call38 lf) Tryz.call39 lf)))) Tryz.call40 (nd (nd (nd (nd (nd lf Tryz.call41 lf) Tryz.call42 (nd lf Tryz.call43 lf)) Tryz.call45 (nd (nd lf Tryz.call46 lf) Tryz.call47 lf)) Tryz.call48 (nd (nd (nd lf Tryz.call49 lf) Tryz.call50 lf) Tryz.call52 (nd (nd lf Tryz.call56 lf) Tryz.call57 lf))) Tryz.call58 (nd (nd (nd (nd lf Tryz.call59 lf) Tryz.call60 (nd lf Tryz.call61 lf)) Tryz.call62 (nd (nd lf Tryz.call63 lf) Tryz.call64 lf)) Tryz.call65 (nd (nd (nd lf Tryz.call66 lf) Tryz.call67 lf) Tryz.call68 (nd (nd lf Tryz.call69 lf) Tryz.call70 lf))))) Tryz.call71 (nd (nd (nd (nd (nd (nd lf Tryz.call72 lf) Tryz.call73 (nd lf Tryz.call74 lf)) Tryz.call75 (nd (nd lf Tryz.call76 lf) Tryz.call77 lf)) Tryz.call78 (nd (nd (nd lf Tryz.call79 lf) Tryz.call80 lf) Tryz.call81 (nd (nd lf Tryz.call82 lf) Tryz.call83 lf))) Tryz.call84 (nd (nd (nd (nd lf Tryz.call85 lf) Tryz.call86 (nd lf Tryz.call87 lf)) Tryz.call88 (nd (nd lf Tryz.call89 lf) Tryz.call90 lf)) Tryz.call91 (nd (nd (nd lf Tryz.call92 lf) Tryz.call94 lf) Tryz.call95 (nd (nd lf Tryz.call96 lf) Tryz.call97 lf)))) Tryz.call98 (nd (nd (nd (nd (nd lf Tryz.call99 lf) Tryz.call100 (nd lf Tryz.call101 lf)) Tryz.call102 (nd (nd lf Tryz.call103 lf) Tryz.call108 lf)) Tryz.call109 (nd (nd (nd lf Tryz.call110 lf) Tryz.call111 lf) Tryz.call112 (nd (nd lf Tryz.call113 lf) Tryz.call114 lf))) Tryz.call115 (nd (nd (nd (nd lf Tryz.call116 lf) Tryz.call117 lf) Tryz.call118 (nd (nd lf Tryz.call119 lf) Tryz.call120 lf)) Tryz.call121 (nd (nd (nd lf Tryz.call122 lf) Tryz.call123 lf) Tryz.call124 (nd (nd lf Tryz.call125 lf) Tryz.call126 lf)))))) Tryz.call127 (nd (nd (nd (nd (nd (nd (nd lf Tryz.call128 lf) Tryz.call129 (nd lf Tryz.call130 lf)) Tryz.call131 (nd (nd lf Tryz.call132 lf) Tryz.call133 lf)) Tryz.call134 (nd (nd (nd lf Tryz.call135 lf) Tryz.call136 lf) Tryz.call137 (nd (nd lf Tryz.call138 lf) Tryz.call139 lf))) Tryz.call140 (nd (nd (nd (nd lf Tryz.call141 lf) Tryz.call142 (nd lf Tryz.call143 lf)) Tryz.call144 (nd (nd lf Tryz.call145 lf) Tryz.call146 lf)) Tryz.call150 (nd (nd (nd lf Tryz.call151 lf) Tryz.call152 lf) Tryz.call153 (nd (nd lf Tryz.call154 lf) Tryz.call155 lf)))) Tryz.call156 (nd (nd (nd (nd (nd lf Tryz.call157 lf) Tryz.call161 (nd lf Tryz.call162 lf)) Tryz.call163 (nd (nd lf Tryz.call164 lf) Tryz.call165 lf)) Tryz.call166 (nd (nd (nd lf Tryz.call167 lf) Tryz.call168 lf) Tryz.call169 (nd (nd lf Tryz.call170 lf) Tryz.call171 lf))) Tryz.call172 (nd (nd (nd (nd lf Tryz.call173 lf) Tryz.call174 lf) Tryz.call175 (nd (nd lf Tryz.call176 lf) Tryz.call177 lf)) Tryz.call178 (nd (nd (nd lf Tryz.call179 lf) Tryz.call185 lf) Tryz.call186 (nd (nd lf Tryz.call187 lf) Tryz.call188 lf))))) Tryz.call189 (nd (nd (nd (nd (nd (nd lf Tryz.call190 lf) Tryz.call191 (nd lf Tryz.call192 lf)) Tryz.call193 (nd (nd lf Tryz.call194 lf) Tryz.call206 lf)) Tryz.call216 (nd (nd (nd lf Tryz.call217 lf) Tryz.call218 lf) Tryz.call219 (nd (nd lf Tryz.call220 lf) Tryz.call221 lf))) Tryz.call222 (nd (nd (nd (nd lf Tryz.call223 lf) Tryz.call224 (nd lf Tryz.call225 lf)) Tryz.call226 (nd (nd lf Tryz.call227 lf) Tryz.call228 lf)) Tryz.call233 (nd (nd (nd lf Tryz.call234 lf) Tryz.call235 lf) Tryz.call236 (nd (nd lf Tryz.call237 lf) Tryz.call238 lf)))) Tryz.call239 (nd (nd (nd (nd (nd lf Tryz.call240 lf) Tryz.call241 (nd lf Tryz.call242 lf)) Tryz.call255 (nd (nd lf Tryz.call256 lf) Tryz.call257 lf)) Tryz.call258 (nd (nd (nd lf Tryz.call259 lf) Tryz.call266 lf) Tryz.call267 (nd (nd lf Tryz.call268 lf) Tryz.call269 lf))) Tryz.call270 (nd (nd (nd (nd lf Tryz.call271 lf) Tryz.call273 lf) Tryz.call281 (nd (nd lf Tryz.call282 lf) Tryz.call283 lf)) Tryz.call284 (nd (nd (nd lf Tryz.call285 lf) Tryz.call286 lf) Tryz.call287 (nd (nd lf Tryz.call288 lf) Tryz.call289 lf)))))))
theorem mixedOk : Tryz.prog.follows .mixedOrders = true := by kernel_rfl
theorem ok : T.Ok where
  und t d h := BT.all_mem (y := (t, d)) undOk (look_mem h)
  inf t z n h := BT.all_mem (y := (t, (z, n))) infOk (look_mem h)
  fn f h args w := by
    obtain ⟨x, hx⟩ := Option.isSome_iff_exists.1 (show (look fnB f).isSome = true from h)
    exact BT.all_mem fnOk (look_mem hx) args w
  mixed := mixedOk
abbrev F.law04_ExprDerive : Nat := 3
theorem D.law04_ExprDerive : T.prog.funcs[F.law04_ExprDerive]? = some Tryz.f3 := Tryz.func3
abbrev F.law04_ExprDeriveFree : Nat := 4
theorem D.law04_ExprDeriveFree : T.prog.funcs[F.law04_ExprDeriveFree]? = some Tryz.f4 := Tryz.func4
abbrev F.expr_Derive : Nat := 7
theorem D.expr_Derive : T.prog.funcs[F.expr_Derive]? = some Tryz.f7 := Tryz.func7
abbrev F.ref04_Derive : Nat := 8
theorem D.ref04_Derive : T.prog.funcs[F.ref04_Derive]? = some Tryz.f8 := Tryz.func8
abbrev F.law04_agrees : Nat := 9
theorem D.law04_agrees : T.prog.funcs[F.law04_agrees]? = some Tryz.f9 := Tryz.func9
abbrev F.law04_sane : Nat := 10
theorem D.law04_sane : T.prog.funcs[F.law04_sane]? = some Tryz.f10 := Tryz.func10
abbrev F.ref04_Has : Nat := 11
theorem D.ref04_Has : T.prog.funcs[F.ref04_Has]? = some Tryz.f11 := Tryz.func11
abbrev F.ref01_Sgn : Nat := 12
theorem D.ref01_Sgn : T.prog.funcs[F.ref01_Sgn]? = some Tryz.f12 := Tryz.func12
abbrev F.ref01_Of : Nat := 13
theorem D.ref01_Of : T.prog.funcs[F.ref01_Of]? = some Tryz.f13 := Tryz.func13
abbrev F.ref01_Cmp : Nat := 16
theorem D.ref01_Cmp : T.prog.funcs[F.ref01_Cmp]? = some Tryz.f16 := Tryz.func16
abbrev F.ref04_Valid : Nat := 18
theorem D.ref04_Valid : T.prog.funcs[F.ref04_Valid]? = some Tryz.f18 := Tryz.func18
abbrev F.expr_Valid : Nat := 25
theorem D.expr_Valid : T.prog.funcs[F.expr_Valid]? = some Tryz.f25 := Tryz.func25
abbrev F.expr_IsName : Nat := 27
theorem D.expr_IsName : T.prog.funcs[F.expr_IsName]? = some Tryz.f27 := Tryz.func27
abbrev F.expr_smooth : Nat := 28
abbrev F.expr_checked : Nat := 29
theorem D.expr_checked : T.prog.funcs[F.expr_checked]? = some Tryz.f29 := Tryz.func29
abbrev F.expr_simplified : Nat := 30
theorem D.expr_simplified : T.prog.funcs[F.expr_simplified]? = some Tryz.f30 := Tryz.func30
abbrev F.expr_derived : Nat := 31
theorem D.expr_derived : T.prog.funcs[F.expr_derived]? = some Tryz.f31 := Tryz.func31
abbrev F.ref04_IsName : Nat := 32
theorem D.ref04_IsName : T.prog.funcs[F.ref04_IsName]? = some Tryz.f32 := Tryz.func32
abbrev F.ref04_rough : Nat := 33
theorem D.ref04_rough : T.prog.funcs[F.ref04_rough]? = some Tryz.f33 := Tryz.func33
abbrev F.ref04_Simple : Nat := 34
theorem D.ref04_Simple : T.prog.funcs[F.ref04_Simple]? = some Tryz.f34 := Tryz.func34
abbrev F.ref04_diff : Nat := 35
theorem D.ref04_diff : T.prog.funcs[F.ref04_diff]? = some Tryz.f35 := Tryz.func35
abbrev F.ref04_fits : Nat := 36
theorem D.ref04_fits : T.prog.funcs[F.ref04_fits]? = some Tryz.f36 := Tryz.func36
abbrev F.law04_nothing : Nat := 37
theorem D.law04_nothing : T.prog.funcs[F.law04_nothing]? = some Tryz.f37 := Tryz.func37
abbrev F.ref04_Same : Nat := 38
theorem D.ref04_Same : T.prog.funcs[F.ref04_Same]? = some Tryz.f38 := Tryz.func38
abbrev F.expr_Parse : Nat := 39
theorem D.expr_Parse : T.prog.funcs[F.expr_Parse]? = some Tryz.f39 := Tryz.func39
abbrev F.expr_Print : Nat := 40
theorem D.expr_Print : T.prog.funcs[F.expr_Print]? = some Tryz.f40 := Tryz.func40
abbrev F.ref01_words : Nat := 41
theorem D.ref01_words : T.prog.funcs[F.ref01_words]? = some Tryz.f41 := Tryz.func41
abbrev F.ref01_NatOf : Nat := 42
theorem D.ref01_NatOf : T.prog.funcs[F.ref01_NatOf]? = some Tryz.f42 := Tryz.func42
abbrev F.ref01_Make : Nat := 43
theorem D.ref01_Make : T.prog.funcs[F.ref01_Make]? = some Tryz.f43 := Tryz.func43
abbrev F.ref01_Diff : Nat := 45
theorem D.ref01_Diff : T.prog.funcs[F.ref01_Diff]? = some Tryz.f45 := Tryz.func45
abbrev F.ref01_Sum : Nat := 46
theorem D.ref01_Sum : T.prog.funcs[F.ref01_Sum]? = some Tryz.f46 := Tryz.func46
abbrev F.ref01_Prod : Nat := 47
theorem D.ref01_Prod : T.prog.funcs[F.ref01_Prod]? = some Tryz.f47 := Tryz.func47
abbrev F.ref01_Div : Nat := 48
theorem D.ref01_Div : T.prog.funcs[F.ref01_Div]? = some Tryz.f48 := Tryz.func48
abbrev F.ref04_walk : Nat := 49
theorem D.ref04_walk : T.prog.funcs[F.ref04_walk]? = some Tryz.f49 := Tryz.func49
abbrev F.expr_count : Nat := 50
theorem D.expr_count : T.prog.funcs[F.expr_count]? = some Tryz.f50 := Tryz.func50
abbrev F.expr_nodes : Nat := 52
abbrev F.syntax_IsName : Nat := 56
theorem D.syntax_IsName : T.prog.funcs[F.syntax_IsName]? = some Tryz.f56 := Tryz.func56
abbrev F.expr_rough : Nat := 57
abbrev F.expr_clone : Nat := 58
theorem D.expr_clone : T.prog.funcs[F.expr_clone]? = some Tryz.f58 := Tryz.func58
abbrev F.expr_negated : Nat := 59
theorem D.expr_negated : T.prog.funcs[F.expr_negated]? = some Tryz.f59 := Tryz.func59
abbrev F.expr_raised : Nat := 60
theorem D.expr_raised : T.prog.funcs[F.expr_raised]? = some Tryz.f60 := Tryz.func60
abbrev F.expr_combined : Nat := 61
theorem D.expr_combined : T.prog.funcs[F.expr_combined]? = some Tryz.f61 := Tryz.func61
abbrev F.expr_whole : Nat := 62
theorem D.expr_whole : T.prog.funcs[F.expr_whole]? = some Tryz.f62 := Tryz.func62
abbrev F.expr_node : Nat := 63
theorem D.expr_node : T.prog.funcs[F.expr_node]? = some Tryz.f63 := Tryz.func63
abbrev F.expr_derivedPower : Nat := 64
theorem D.expr_derivedPower : T.prog.funcs[F.expr_derivedPower]? = some Tryz.f64 := Tryz.func64
abbrev F.expr_derivedCall : Nat := 65
theorem D.expr_derivedCall : T.prog.funcs[F.expr_derivedCall]? = some Tryz.f65 := Tryz.func65
abbrev F.ref04_word : Nat := 66
theorem D.ref04_word : T.prog.funcs[F.ref04_word]? = some Tryz.f66 := Tryz.func66
abbrev F.ref04_reserved : Nat := 67
theorem D.ref04_reserved : T.prog.funcs[F.ref04_reserved]? = some Tryz.f67 := Tryz.func67
abbrev F.ref04_opposite : Nat := 68
theorem D.ref04_opposite : T.prog.funcs[F.ref04_opposite]? = some Tryz.f68 := Tryz.func68
abbrev F.ref04_sum : Nat := 69
theorem D.ref04_sum : T.prog.funcs[F.ref04_sum]? = some Tryz.f69 := Tryz.func69
abbrev F.ref04_product : Nat := 70
theorem D.ref04_product : T.prog.funcs[F.ref04_product]? = some Tryz.f70 := Tryz.func70
abbrev F.ref04_quotient : Nat := 71
theorem D.ref04_quotient : T.prog.funcs[F.ref04_quotient]? = some Tryz.f71 := Tryz.func71
abbrev F.ref04_power : Nat := 72
theorem D.ref04_power : T.prog.funcs[F.ref04_power]? = some Tryz.f72 := Tryz.func72
abbrev F.ref04_lit : Nat := 73
theorem D.ref04_lit : T.prog.funcs[F.ref04_lit]? = some Tryz.f73 := Tryz.func73
abbrev F.ref01_Int : Nat := 74
theorem D.ref01_Int : T.prog.funcs[F.ref01_Int]? = some Tryz.f74 := Tryz.func74
abbrev F.ref04_one : Nat := 75
theorem D.ref04_one : T.prog.funcs[F.ref04_one]? = some Tryz.f75 := Tryz.func75
abbrev F.ref04_diffPow : Nat := 76
theorem D.ref04_diffPow : T.prog.funcs[F.ref04_diffPow]? = some Tryz.f76 := Tryz.func76
abbrev F.ref04_two : Nat := 77
theorem D.ref04_two : T.prog.funcs[F.ref04_two]? = some Tryz.f77 := Tryz.func77
abbrev F.ref04_diffCall : Nat := 78
theorem D.ref04_diffCall : T.prog.funcs[F.ref04_diffCall]? = some Tryz.f78 := Tryz.func78
abbrev F.ref04_Fits : Nat := 79
theorem D.ref04_Fits : T.prog.funcs[F.ref04_Fits]? = some Tryz.f79 := Tryz.func79
abbrev F.ref01_Same : Nat := 80
theorem D.ref01_Same : T.prog.funcs[F.ref01_Same]? = some Tryz.f80 := Tryz.func80
abbrev F.syntax_Scan : Nat := 81
theorem D.syntax_Scan : T.prog.funcs[F.syntax_Scan]? = some Tryz.f81 := Tryz.func81
abbrev F.syntax_New : Nat := 82
theorem D.syntax_New : T.prog.funcs[F.syntax_New]? = some Tryz.f82 := Tryz.func82
abbrev F.syntax_Run : Nat := 83
abbrev F.expr_Parse_1 : Nat := 84
theorem D.expr_Parse_1 : T.prog.funcs[F.expr_Parse_1]? = some Tryz.f84 := Tryz.func84
abbrev F.psyntax_Parser_Expr : Nat := 85
theorem D.psyntax_Parser_Expr : T.prog.funcs[F.psyntax_Parser_Expr]? = some Tryz.f85 := Tryz.func85
abbrev F.psyntax_Parser_Done : Nat := 86
theorem D.psyntax_Parser_Done : T.prog.funcs[F.psyntax_Parser_Done]? = some Tryz.f86 := Tryz.func86
abbrev F.psyntax_Parser_Check : Nat := 87
theorem D.psyntax_Parser_Check : T.prog.funcs[F.psyntax_Parser_Check]? = some Tryz.f87 := Tryz.func87
abbrev F.expr_text : Nat := 88
theorem D.expr_text : T.prog.funcs[F.expr_text]? = some Tryz.f88 := Tryz.func88
abbrev F.ref01_trim : Nat := 89
theorem D.ref01_trim : T.prog.funcs[F.ref01_trim]? = some Tryz.f89 := Tryz.func89
abbrev F.ref01_NatGcd : Nat := 90
theorem D.ref01_NatGcd : T.prog.funcs[F.ref01_NatGcd]? = some Tryz.f90 := Tryz.func90
abbrev F.ref01_NatDiv : Nat := 91
theorem D.ref01_NatDiv : T.prog.funcs[F.ref01_NatDiv]? = some Tryz.f91 := Tryz.func91
abbrev F.number_Canon : Nat := 92
theorem D.number_Canon : T.prog.funcs[F.number_Canon]? = some Tryz.f92 := Tryz.func92
abbrev F.ref01_Opp : Nat := 94
theorem D.ref01_Opp : T.prog.funcs[F.ref01_Opp]? = some Tryz.f94 := Tryz.func94
abbrev F.ref01_NatMul : Nat := 95
theorem D.ref01_NatMul : T.prog.funcs[F.ref01_NatMul]? = some Tryz.f95 := Tryz.func95
abbrev F.ref01_Q_den : Nat := 96
theorem D.ref01_Q_den : T.prog.funcs[F.ref01_Q_den]? = some Tryz.f96 := Tryz.func96
abbrev F.ref01_NatAdd : Nat := 97
theorem D.ref01_NatAdd : T.prog.funcs[F.ref01_NatAdd]? = some Tryz.f97 := Tryz.func97
abbrev F.ref01_NatCmp : Nat := 98
theorem D.ref01_NatCmp : T.prog.funcs[F.ref01_NatCmp]? = some Tryz.f98 := Tryz.func98
abbrev F.ref01_NatSub : Nat := 99
theorem D.ref01_NatSub : T.prog.funcs[F.ref01_NatSub]? = some Tryz.f99 := Tryz.func99
abbrev F.ref04_node : Nat := 100
theorem D.ref04_node : T.prog.funcs[F.ref04_node]? = some Tryz.f100 := Tryz.func100
abbrev F.expr_fields : Nat := 101
theorem D.expr_fields : T.prog.funcs[F.expr_fields]? = some Tryz.f101 := Tryz.func101
abbrev F.expr_nodes_1 : Nat := 102
abbrev F.expr_each : Nat := 103
abbrev F.syntax_word : Nat := 108
theorem D.syntax_word : T.prog.funcs[F.syntax_word]? = some Tryz.f108 := Tryz.func108
abbrev F.syntax_Reserved : Nat := 109
theorem D.syntax_Reserved : T.prog.funcs[F.syntax_Reserved]? = some Tryz.f109 := Tryz.func109
abbrev F.expr_literal : Nat := 110
theorem D.expr_literal : T.prog.funcs[F.expr_literal]? = some Tryz.f110 := Tryz.func110
abbrev F.expr_lit : Nat := 111
theorem D.expr_lit : T.prog.funcs[F.expr_lit]? = some Tryz.f111 := Tryz.func111
abbrev F.word_Frac_Opposite : Nat := 112
theorem D.word_Frac_Opposite : T.prog.funcs[F.word_Frac_Opposite]? = some Tryz.f112 := Tryz.func112
abbrev F.word_Frac_Sign : Nat := 113
theorem D.word_Frac_Sign : T.prog.funcs[F.word_Frac_Sign]? = some Tryz.f113 := Tryz.func113
abbrev F.word_Frac_Inverse : Nat := 114
theorem D.word_Frac_Inverse : T.prog.funcs[F.word_Frac_Inverse]? = some Tryz.f114 := Tryz.func114
abbrev F.word_Frac_Pow : Nat := 115
theorem D.word_Frac_Pow : T.prog.funcs[F.word_Frac_Pow]? = some Tryz.f115 := Tryz.func115
abbrev F.expr_operandOf : Nat := 116
theorem D.expr_operandOf : T.prog.funcs[F.expr_operandOf]? = some Tryz.f116 := Tryz.func116
abbrev F.expr_fold : Nat := 117
theorem D.expr_fold : T.prog.funcs[F.expr_fold]? = some Tryz.f117 := Tryz.func117
abbrev F.expr_added : Nat := 118
theorem D.expr_added : T.prog.funcs[F.expr_added]? = some Tryz.f118 := Tryz.func118
abbrev F.expr_subtracted : Nat := 119
theorem D.expr_subtracted : T.prog.funcs[F.expr_subtracted]? = some Tryz.f119 := Tryz.func119
abbrev F.expr_multiplied : Nat := 120
theorem D.expr_multiplied : T.prog.funcs[F.expr_multiplied]? = some Tryz.f120 := Tryz.func120
abbrev F.expr_operand_equals : Nat := 121
theorem D.expr_operand_equals : T.prog.funcs[F.expr_operand_equals]? = some Tryz.f121 := Tryz.func121
abbrev F.word_Int : Nat := 122
theorem D.word_Int : T.prog.funcs[F.word_Int]? = some Tryz.f122 := Tryz.func122
abbrev F.ref04_literal : Nat := 123
theorem D.ref04_literal : T.prog.funcs[F.ref04_literal]? = some Tryz.f123 := Tryz.func123
abbrev F.ref04_made : Nat := 124
theorem D.ref04_made : T.prog.funcs[F.ref04_made]? = some Tryz.f124 := Tryz.func124
abbrev F.ref04_is : Nat := 125
theorem D.ref04_is : T.prog.funcs[F.ref04_is]? = some Tryz.f125 := Tryz.func125
abbrev F.ref01_Power : Nat := 126
theorem D.ref01_Power : T.prog.funcs[F.ref01_Power]? = some Tryz.f126 := Tryz.func126
abbrev F.ref04_num : Nat := 127
theorem D.ref04_num : T.prog.funcs[F.ref04_num]? = some Tryz.f127 := Tryz.func127
abbrev F.elem_Find : Nat := 128
theorem D.elem_Find : T.prog.funcs[F.elem_Find]? = some Tryz.f128 := Tryz.func128
abbrev F.syntax_number : Nat := 129
theorem D.syntax_number : T.prog.funcs[F.syntax_number]? = some Tryz.f129 := Tryz.func129
abbrev F.strings_HasPrefix : Nat := 130
theorem D.strings_HasPrefix : T.prog.funcs[F.strings_HasPrefix]? = some Tryz.f130 := Tryz.func130
abbrev F.syntax_Run_1 : Nat := 131
abbrev F.psyntax_Parser_term : Nat := 132
theorem D.psyntax_Parser_term : T.prog.funcs[F.psyntax_Parser_term]? = some Tryz.f132 := Tryz.func132
abbrev F.psyntax_Parser_Accept : Nat := 133
theorem D.psyntax_Parser_Accept : T.prog.funcs[F.psyntax_Parser_Accept]? = some Tryz.f133 := Tryz.func133
abbrev F.syntax_node : Nat := 134
theorem D.syntax_node : T.prog.funcs[F.syntax_node]? = some Tryz.f134 := Tryz.func134
abbrev F.psyntax_Parser_Fail : Nat := 135
theorem D.psyntax_Parser_Fail : T.prog.funcs[F.psyntax_Parser_Fail]? = some Tryz.f135 := Tryz.func135
abbrev F.strings_Cut : Nat := 136
theorem D.strings_Cut : T.prog.funcs[F.strings_Cut]? = some Tryz.f136 := Tryz.func136
abbrev F.strings_Trim : Nat := 137
theorem D.strings_Trim : T.prog.funcs[F.strings_Trim]? = some Tryz.f137 := Tryz.func137
abbrev F.number_Parse : Nat := 138
theorem D.number_Parse : T.prog.funcs[F.number_Parse]? = some Tryz.f138 := Tryz.func138
abbrev F.expr_write : Nat := 139
theorem D.expr_write : T.prog.funcs[F.expr_write]? = some Tryz.f139 := Tryz.func139
abbrev F.pstrings_Builder_String : Nat := 140
theorem D.pstrings_Builder_String : T.prog.funcs[F.pstrings_Builder_String]? = some Tryz.f140 := Tryz.func140
abbrev F.ref01_small : Nat := 141
theorem D.ref01_small : T.prog.funcs[F.ref01_small]? = some Tryz.f141 := Tryz.func141
abbrev F.ref01_NatShl : Nat := 142
theorem D.ref01_NatShl : T.prog.funcs[F.ref01_NatShl]? = some Tryz.f142 := Tryz.func142
abbrev F.ref01_digit : Nat := 143
theorem D.ref01_digit : T.prog.funcs[F.ref01_digit]? = some Tryz.f143 := Tryz.func143
abbrev F.ref01_NatShr : Nat := 144
theorem D.ref01_NatShr : T.prog.funcs[F.ref01_NatShr]? = some Tryz.f144 := Tryz.func144
abbrev F.number_one : Nat := 145
theorem D.number_one : T.prog.funcs[F.number_one]? = some Tryz.f145 := Tryz.func145
abbrev F.number_Canon_1 : Nat := 146
theorem D.number_Canon_1 : T.prog.funcs[F.number_Canon_1]? = some Tryz.f146 := Tryz.func146
abbrev F.ref04_kids : Nat := 150
theorem D.ref04_kids : T.prog.funcs[F.ref04_kids]? = some Tryz.f150 := Tryz.func150
abbrev F.ref04_argument : Nat := 151
theorem D.ref04_argument : T.prog.funcs[F.ref04_argument]? = some Tryz.f151 := Tryz.func151
abbrev F.ref01_Large : Nat := 152
theorem D.ref01_Large : T.prog.funcs[F.ref01_Large]? = some Tryz.f152 := Tryz.func152
abbrev F.ref01_Zero : Nat := 153
theorem D.ref01_Zero : T.prog.funcs[F.ref01_Zero]? = some Tryz.f153 := Tryz.func153
abbrev F.expr_kids : Nat := 154
theorem D.expr_kids : T.prog.funcs[F.expr_kids]? = some Tryz.f154 := Tryz.func154
abbrev F.word_Of : Nat := 155
theorem D.word_Of : T.prog.funcs[F.word_Of]? = some Tryz.f155 := Tryz.func155
abbrev F.word_Nat_Zero : Nat := 156
theorem D.word_Nat_Zero : T.prog.funcs[F.word_Nat_Zero]? = some Tryz.f156 := Tryz.func156
abbrev F.word_Read : Nat := 157
theorem D.word_Read : T.prog.funcs[F.word_Read]? = some Tryz.f157 := Tryz.func157
abbrev F.syntax_letter : Nat := 161
theorem D.syntax_letter : T.prog.funcs[F.syntax_letter]? = some Tryz.f161 := Tryz.func161
abbrev F.syntax_digit : Nat := 162
theorem D.syntax_digit : T.prog.funcs[F.syntax_digit]? = some Tryz.f162 := Tryz.func162
abbrev F.word_Frac_Give : Nat := 163
theorem D.word_Frac_Give : T.prog.funcs[F.word_Frac_Give]? = some Tryz.f163 := Tryz.func163
abbrev F.word_Nat_Pow : Nat := 164
theorem D.word_Nat_Pow : T.prog.funcs[F.word_Nat_Pow]? = some Tryz.f164 := Tryz.func164
abbrev F.word_Frac_Add : Nat := 165
theorem D.word_Frac_Add : T.prog.funcs[F.word_Frac_Add]? = some Tryz.f165 := Tryz.func165
abbrev F.word_Frac_Mul : Nat := 166
theorem D.word_Frac_Mul : T.prog.funcs[F.word_Frac_Mul]? = some Tryz.f166 := Tryz.func166
abbrev F.word_Frac_Cmp : Nat := 167
theorem D.word_Frac_Cmp : T.prog.funcs[F.word_Frac_Cmp]? = some Tryz.f167 := Tryz.func167
abbrev F.word_Small : Nat := 168
theorem D.word_Small : T.prog.funcs[F.word_Small]? = some Tryz.f168 := Tryz.func168
abbrev F.ref01_Over : Nat := 169
theorem D.ref01_Over : T.prog.funcs[F.ref01_Over]? = some Tryz.f169 := Tryz.func169
abbrev F.ref01_NatPow : Nat := 170
theorem D.ref01_NatPow : T.prog.funcs[F.ref01_NatPow]? = some Tryz.f170 := Tryz.func170
abbrev F.ref01_Rat : Nat := 171
theorem D.ref01_Rat : T.prog.funcs[F.ref01_Rat]? = some Tryz.f171 := Tryz.func171
abbrev F.elem_names : Nat := 172
theorem D.elem_names : T.prog.funcs[F.elem_names]? = some Tryz.f172 := Tryz.func172
abbrev F.syntax_digits : Nat := 173
theorem D.syntax_digits : T.prog.funcs[F.syntax_digits]? = some Tryz.f173 := Tryz.func173
abbrev F.internal_stringslite_HasPrefix : Nat := 174
theorem D.internal_stringslite_HasPrefix : T.prog.funcs[F.internal_stringslite_HasPrefix]? = some Tryz.f174 := Tryz.func174
abbrev F.psyntax_Parser_factor : Nat := 175
theorem D.psyntax_Parser_factor : T.prog.funcs[F.psyntax_Parser_factor]? = some Tryz.f175 := Tryz.func175
abbrev F.psyntax_Parser_At : Nat := 176
theorem D.psyntax_Parser_At : T.prog.funcs[F.psyntax_Parser_At]? = some Tryz.f176 := Tryz.func176
abbrev F.internal_stringslite_Cut : Nat := 177
theorem D.internal_stringslite_Cut : T.prog.funcs[F.internal_stringslite_Cut]? = some Tryz.f177 := Tryz.func177
abbrev F.strings_trimLeftByte : Nat := 178
theorem D.strings_trimLeftByte : T.prog.funcs[F.strings_trimLeftByte]? = some Tryz.f178 := Tryz.func178
abbrev F.strings_trimRightByte : Nat := 179
theorem D.strings_trimRightByte : T.prog.funcs[F.strings_trimRightByte]? = some Tryz.f179 := Tryz.func179
abbrev F.number_run : Nat := 185
theorem D.number_run : T.prog.funcs[F.number_run]? = some Tryz.f185 := Tryz.func185
abbrev F.word_Reduce : Nat := 186
theorem D.word_Reduce : T.prog.funcs[F.word_Reduce]? = some Tryz.f186 := Tryz.func186
abbrev F.number_natural : Nat := 187
theorem D.number_natural : T.prog.funcs[F.number_natural]? = some Tryz.f187 := Tryz.func187
abbrev F.number_Format : Nat := 188
theorem D.number_Format : T.prog.funcs[F.number_Format]? = some Tryz.f188 := Tryz.func188
abbrev F.pstrings_Builder_WriteString : Nat := 189
theorem D.pstrings_Builder_WriteString : T.prog.funcs[F.pstrings_Builder_WriteString]? = some Tryz.f189 := Tryz.func189
abbrev F.expr_place : Nat := 190
theorem D.expr_place : T.prog.funcs[F.expr_place]? = some Tryz.f190 := Tryz.func190
abbrev F.expr_infix : Nat := 191
theorem D.expr_infix : T.prog.funcs[F.expr_infix]? = some Tryz.f191 := Tryz.func191
abbrev F.strconv_Itoa : Nat := 192
abbrev F.expr_list : Nat := 193
theorem D.expr_list : T.prog.funcs[F.expr_list]? = some Tryz.f193 := Tryz.func193
abbrev F.ref01_less : Nat := 194
theorem D.ref01_less : T.prog.funcs[F.ref01_less]? = some Tryz.f194 := Tryz.func194
abbrev F.word_Frac_Fits : Nat := 206
theorem D.word_Frac_Fits : T.prog.funcs[F.word_Frac_Fits]? = some Tryz.f206 := Tryz.func206
abbrev F.math_bits_Len32 : Nat := 216
theorem D.math_bits_Len32 : T.prog.funcs[F.math_bits_Len32]? = some Tryz.f216 := Tryz.func216
abbrev F.math_bits_Len64 : Nat := 217
abbrev F.slices_Clone_of__of_uint32_uint32 : Nat := 218
theorem D.slices_Clone_of__of_uint32_uint32 : T.prog.funcs[F.slices_Clone_of__of_uint32_uint32]? = some Tryz.f218 := Tryz.func218
abbrev F.word_Nat_One : Nat := 219
theorem D.word_Nat_One : T.prog.funcs[F.word_Nat_One]? = some Tryz.f219 := Tryz.func219
abbrev F.word_Nat_Mul : Nat := 220
theorem D.word_Nat_Mul : T.prog.funcs[F.word_Nat_Mul]? = some Tryz.f220 := Tryz.func220
abbrev F.word_Nat_Add : Nat := 221
theorem D.word_Nat_Add : T.prog.funcs[F.word_Nat_Add]? = some Tryz.f221 := Tryz.func221
abbrev F.word_Nat_Cmp : Nat := 222
theorem D.word_Nat_Cmp : T.prog.funcs[F.word_Nat_Cmp]? = some Tryz.f222 := Tryz.func222
abbrev F.word_Nat_Sub : Nat := 223
theorem D.word_Nat_Sub : T.prog.funcs[F.word_Nat_Sub]? = some Tryz.f223 := Tryz.func223
abbrev F.ref01_list : Nat := 224
theorem D.ref01_list : T.prog.funcs[F.ref01_list]? = some Tryz.f224 := Tryz.func224
abbrev F.ref01_Q_whole : Nat := 225
theorem D.ref01_Q_whole : T.prog.funcs[F.ref01_Q_whole]? = some Tryz.f225 := Tryz.func225
abbrev F.psyntax_Parser_atom : Nat := 226
theorem D.psyntax_Parser_atom : T.prog.funcs[F.psyntax_Parser_atom]? = some Tryz.f226 := Tryz.func226
abbrev F.psyntax_Parser_count : Nat := 227
theorem D.psyntax_Parser_count : T.prog.funcs[F.psyntax_Parser_count]? = some Tryz.f227 := Tryz.func227
abbrev F.internal_stringslite_Index : Nat := 228
theorem D.internal_stringslite_Index : T.prog.funcs[F.internal_stringslite_Index]? = some Tryz.f228 := Tryz.func228
abbrev F.word_Nat_Twos : Nat := 233
theorem D.word_Nat_Twos : T.prog.funcs[F.word_Nat_Twos]? = some Tryz.f233 := Tryz.func233
abbrev F.word_Nat_Shr : Nat := 234
theorem D.word_Nat_Shr : T.prog.funcs[F.word_Nat_Shr]? = some Tryz.f234 := Tryz.func234
abbrev F.word_Nat_Bits : Nat := 235
theorem D.word_Nat_Bits : T.prog.funcs[F.word_Nat_Bits]? = some Tryz.f235 := Tryz.func235
abbrev F.word_Nat_GCD : Nat := 236
theorem D.word_Nat_GCD : T.prog.funcs[F.word_Nat_GCD]? = some Tryz.f236 := Tryz.func236
abbrev F.word_Nat_Div : Nat := 237
theorem D.word_Nat_Div : T.prog.funcs[F.word_Nat_Div]? = some Tryz.f237 := Tryz.func237
abbrev F.number_decimal : Nat := 238
theorem D.number_decimal : T.prog.funcs[F.number_decimal]? = some Tryz.f238 := Tryz.func238
abbrev F.pstrings_Builder_copyCheck : Nat := 239
abbrev F.expr_level : Nat := 240
theorem D.expr_level : T.prog.funcs[F.expr_level]? = some Tryz.f240 := Tryz.func240
abbrev F.internal_strconv_Itoa : Nat := 241
abbrev F.elem_Name : Nat := 242
theorem D.elem_Name : T.prog.funcs[F.elem_Name]? = some Tryz.f242 := Tryz.func242
abbrev F.psyntax_Parser_Next : Nat := 255
theorem D.psyntax_Parser_Next : T.prog.funcs[F.psyntax_Parser_Next]? = some Tryz.f255 := Tryz.func255
abbrev F.psyntax_Parser_kids : Nat := 256
theorem D.psyntax_Parser_kids : T.prog.funcs[F.psyntax_Parser_kids]? = some Tryz.f256 := Tryz.func256
abbrev F.psyntax_Parser_Want : Nat := 257
theorem D.psyntax_Parser_Want : T.prog.funcs[F.psyntax_Parser_Want]? = some Tryz.f257 := Tryz.func257
abbrev F.psyntax_Parser_Number : Nat := 258
theorem D.psyntax_Parser_Number : T.prog.funcs[F.psyntax_Parser_Number]? = some Tryz.f258 := Tryz.func258
abbrev F.internal_stringslite_IndexByte : Nat := 259
abbrev F.math_bits_TrailingZeros32 : Nat := 266
theorem D.math_bits_TrailingZeros32 : T.prog.funcs[F.math_bits_TrailingZeros32]? = some Tryz.f266 := Tryz.func266
abbrev F.word_Nat_DivSmall : Nat := 267
theorem D.word_Nat_DivSmall : T.prog.funcs[F.word_Nat_DivSmall]? = some Tryz.f267 := Tryz.func267
abbrev F.math_bits_LeadingZeros32 : Nat := 268
theorem D.math_bits_LeadingZeros32 : T.prog.funcs[F.math_bits_LeadingZeros32]? = some Tryz.f268 := Tryz.func268
abbrev F.word_Nat_Shl : Nat := 269
theorem D.word_Nat_Shl : T.prog.funcs[F.word_Nat_Shl]? = some Tryz.f269 := Tryz.func269
abbrev F.word_digit : Nat := 270
theorem D.word_digit : T.prog.funcs[F.word_digit]? = some Tryz.f270 := Tryz.func270
abbrev F.slices_Reverse_of__of_byte_byte : Nat := 271
theorem D.slices_Reverse_of__of_byte_byte : T.prog.funcs[F.slices_Reverse_of__of_byte_byte]? = some Tryz.f271 := Tryz.func271
abbrev F.internal_strconv_FormatInt : Nat := 273
abbrev F.internal_strconv_small : Nat := 281
abbrev F.internal_strconv_numDigits : Nat := 282
abbrev F.internal_strconv_formatBase10 : Nat := 283
abbrev F.internal_strconv_formatBits : Nat := 284
abbrev F.internal_strconv_log10Pow2 : Nat := 285
abbrev F.internal_strconv_bool2_of_int : Nat := 286
abbrev F.internal_strconv_isPowerOfTwo : Nat := 287
abbrev F.math_bits_TrailingZeros : Nat := 288
abbrev F.math_bits_TrailingZeros64 : Nat := 289
abbrev Ty.int64 : Nat := 2
abbrev Ty.int : Nat := 3
abbrev Ty.bool : Nat := 4
abbrev Ty.uint8 : Nat := 5
abbrev Ty.int32 : Nat := 21
abbrev Ty.api_Rat : Nat := 24
abbrev Ty.api_Expr : Nat := 27
abbrev Ty.api_Errno : Nat := 28
abbrev Ty.ref01_Nat : Nat := 35
abbrev Ty.ref01_Q : Nat := 37
abbrev Ty.law04_Parts : Nat := 41
abbrev Ty.uint64 : Nat := 68
abbrev Ty.syntax_Fault : Nat := 99
abbrev Ty.uint32 : Nat := 104
abbrev Ty.api_Value : Nat := 111
abbrev Ty.word_Nat : Nat := 123
abbrev Ty.word_Frac : Nat := 125
abbrev Ty.expr_operand : Nat := 134
abbrev Ty.syntax_Token : Nat := 142
abbrev Ty.syntax_Parser : Nat := 148
abbrev Ty.syntax_count : Nat := 155
abbrev Gl.internal_bytealg_MaxLen : Nat := 0
abbrev Gl.unicode_utf8_first : Nat := 1
abbrev Gl.unicode_utf8_acceptRanges : Nat := 2
abbrev Gl.math_bits_deBruijn32tab : Nat := 3
abbrev Gl.internal_strconv_uint64pow10 : Nat := 4
abbrev Gl.math_bits_deBruijn64tab : Nat := 5
end Go.Proofs.YtbgicephinomlaaGreatDoor