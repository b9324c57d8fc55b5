/- The tables of this seat's translation as the engine wants them: the types' shapes and zero values, the functions' numbers by name. Printed by program; every row is checked by Lean. -/
import Derived.Test.YtbgicephinomlaaGreatDoorProg
import Derived.Test.YtbgicephinomlaaGreatDoorVcRule
import Derived.KernelRfl
set_option linter.unusedVariables false
set_option linter.unusedSimpArgs false
namespace Go.Proofs.YtbgicephinomlaaGreatDoor
open Go Go.Vc
inductive BT (α : Type) where
  | leaf
  | node (l : BT α) (k : Nat) (x : α) (r : BT α)
def look {α : Type} : BT α → Nat → Option α
  | .leaf, _ => none
  | .node l k x r, t => match Nat.beq t k with
    | true => some x
    | false => match Nat.blt t k with
      | true => look l t
      | false => look r t
def BT.toL {α : Type} : BT α → List (Nat × α)
  | .leaf => []
  | .node l k x r => l.toL ++ (k, x) :: r.toL
theorem look_mem {α : Type} : ∀ {b : BT α} {t : Nat} {x : α}, look b t = some x → (t, x) ∈ b.toL
  | .leaf, _, _, h => by simp [look] at h
  | .node l k y r, t, x, h => by
    simp only [look] at h
    split at h
    · rename_i e
      obtain rfl := Nat.eq_of_beq_eq_true e
      cases h; simp [BT.toL]
    · split at h
      · exact List.mem_append_left _ (look_mem h)
      · exact List.mem_append_right _ (List.mem_cons_of_mem _ (look_mem h))
set_option maxRecDepth 100000 in
def undB : BT TypeDesc := (.node (.node (.node (.node (.node (.node .leaf 1 (.func #[] #[] false) .leaf) 2 (.int .i64) .leaf) 3 (.int .i64) (.node (.node .leaf 4 (.bool) .leaf) 5 (.int .u8) .leaf)) 9 (.string) (.node (.node (.node .leaf 22 (.slice 104) .leaf) 24 (.struct #[⟨"Neg", 4, 0, false, "", "", 0⟩, ⟨"Num", 22, 1, false, "", "", 8⟩, ⟨"Den", 22, 2, false, "", "", 32⟩]) .leaf) 25 (.slice 27) (.node (.node .leaf 27 (.struct #[⟨"Op", 3, 0, false, "", "", 0⟩, ⟨"Arg", 3, 1, false, "", "", 8⟩, ⟨"Num", 24, 2, false, "", "", 16⟩, ⟨"Name", 9, 5, false, "", "", 72⟩, ⟨"Kids", 25, 6, false, "", "", 88⟩]) .leaf) 28 (.int .i64) .leaf))) 32 (.func #[] #[4] false) (.node (.node (.node (.node .leaf 35 (.slice 104) .leaf) 37 (.struct #[⟨"Neg", 4, 0, false, "", "", 0⟩, ⟨"N", 35, 1, false, "", "", 8⟩, ⟨"D", 35, 2, false, "", "", 32⟩]) .leaf) 48 (.func #[27] #[4] false) (.node (.node .leaf 51 (.slice 9) .leaf) 57 (.func #[9] #[4] false) .leaf)) 65 (.func #[27] #[9, 28] false) (.node (.node (.node .leaf 68 (.int .u64) .leaf) 75 (.map 9 4) .leaf) 76 (.func #[48] #[] false) (.node (.node .leaf 80 (.func #[57] #[] false) .leaf) 93 (.slice 142) .leaf)))) 96 (.pointer 148) (.node (.node (.node (.node (.node .leaf 99 (.struct #[⟨"Err", 28, 0, false, "", "", 0⟩, ⟨"At", 3, 1, false, "", "", 8⟩]) .leaf) 104 (.int .u32) .leaf) 123 (.slice 104) (.node (.node .leaf 125 (.struct #[⟨"Neg", 4, 0, false, "", "", 0⟩, ⟨"Num", 123, 1, false, "", "", 8⟩, ⟨"Den", 123, 2, false, "", "", 32⟩]) .leaf) 142 (.struct #[⟨"Kind", 3, 0, false, "", "", 0⟩, ⟨"Text", 9, 1, false, "", "", 8⟩, ⟨"At", 3, 2, false, "", "", 24⟩]) .leaf)) 146 (.slice 155) (.node (.node (.node .leaf 148 (.struct #[⟨"tokens", 93, 0, false, "", "inequality/syntax", 0⟩, ⟨"next", 3, 1, false, "", "inequality/syntax", 24⟩, ⟨"end", 3, 2, false, "", "inequality/syntax", 32⟩, ⟨"counts", 146, 3, false, "", "inequality/syntax", 40⟩]) .leaf) 149 (.slice 99) .leaf) 155 (.struct #[⟨"at", 3, 0, false, "", "inequality/syntax", 0⟩, ⟨"low", 3, 1, false, "", "inequality/syntax", 8⟩, ⟨"high", 3, 2, false, "", "inequality/syntax", 16⟩, ⟨"n", 3, 3, false, "", "inequality/syntax", 24⟩]) (.node (.node .leaf 156 (.pointer 159) .leaf) 157 (.slice 5) .leaf))) 159 (.struct #[⟨"addr", 156, 0, false, "", "strings", 0⟩, ⟨"buf", 157, 1, false, "", "strings", 8⟩]) (.node (.node (.node (.node .leaf 164 (.int .u64) .leaf) 168 (.func #[125] #[125] false) .leaf) 190 (.array 256 4) (.node (.node .leaf 194 (.pointer 190) .leaf) 207 (.pointer 5) .leaf)) 236 (.map 3 9) (.node (.node (.node .leaf 274 (.array 32 5) .leaf) 275 (.array 24 5) .leaf) 280 (.array 20 68) (.node (.node .leaf 281 (.array 65 5) .leaf) 282 (.array 64 5) .leaf)))))
set_option maxRecDepth 100000 in
def infB : BT (List Value × Nat) := (.node (.node (.node (.node (.node (.node .leaf 1 ([.nilFunc], 8) .leaf) 2 ([.int .i64 0], 8) .leaf) 3 ([.int .i64 0], 8) (.node (.node .leaf 4 ([.bool false], 1) .leaf) 5 ([.int .u8 0], 1) .leaf)) 9 ([.string ByteArray.empty], 16) (.node (.node (.node .leaf 22 ([.slice none 0 0], 24) .leaf) 24 ([.bool false, .slice none 0 0, .slice none 0 0], 56) .leaf) 25 ([.slice none 0 0], 24) (.node (.node .leaf 27 ([.int .i64 0, .int .i64 0, .bool false, .slice none 0 0, .slice none 0 0, .string ByteArray.empty, .slice none 0 0], 112) .leaf) 28 ([.int .i64 0], 8) .leaf))) 32 ([.nilFunc], 8) (.node (.node (.node (.node .leaf 35 ([.slice none 0 0], 24) .leaf) 37 ([.bool false, .slice none 0 0, .slice none 0 0], 56) .leaf) 48 ([.nilFunc], 8) (.node (.node .leaf 51 ([.slice none 0 0], 24) .leaf) 57 ([.nilFunc], 8) .leaf)) 65 ([.nilFunc], 8) (.node (.node (.node .leaf 68 ([.int .u64 0], 8) .leaf) 75 ([.map none], 8) .leaf) 76 ([.nilFunc], 8) (.node (.node .leaf 80 ([.nilFunc], 8) .leaf) 93 ([.slice none 0 0], 24) .leaf)))) 96 ([.pointer none], 8) (.node (.node (.node (.node (.node .leaf 99 ([.int .i64 0, .int .i64 0], 16) .leaf) 104 ([.int .u32 0], 4) .leaf) 123 ([.slice none 0 0], 24) (.node (.node .leaf 125 ([.bool false, .slice none 0 0, .slice none 0 0], 56) .leaf) 142 ([.int .i64 0, .string ByteArray.empty, .int .i64 0], 32) .leaf)) 146 ([.slice none 0 0], 24) (.node (.node (.node .leaf 148 ([.slice none 0 0, .int .i64 0, .int .i64 0, .slice none 0 0], 64) .leaf) 149 ([.slice none 0 0], 24) .leaf) 155 ([.int .i64 0, .int .i64 0, .int .i64 0, .int .i64 0], 32) (.node (.node .leaf 156 ([.pointer none], 8) .leaf) 157 ([.slice none 0 0], 24) .leaf))) 159 ([.pointer none, .slice none 0 0], 32) (.node (.node (.node (.node .leaf 164 ([.int .u64 0], 8) .leaf) 168 ([.nilFunc], 8) .leaf) 194 ([.pointer none], 8) (.node (.node .leaf 207 ([.pointer none], 8) .leaf) 236 ([.map none], 8) .leaf)) 260 ([.pointer none], 8) (.node (.node (.node .leaf 274 ([.int .u8 0, .int .u8 0, .int .u8 0, .int .u8 0, .int .u8 0, .int .u8 0, .int .u8 0, .int .u8 0, .int .u8 0, .int .u8 0, .int .u8 0, .int .u8 0, .int .u8 0, .int .u8 0, .int .u8 0, .int .u8 0, .int .u8 0, .int .u8 0, .int .u8 0, .int .u8 0, .int .u8 0, .int .u8 0, .int .u8 0, .int .u8 0, .int .u8 0, .int .u8 0, .int .u8 0, .int .u8 0, .int .u8 0, .int .u8 0, .int .u8 0, .int .u8 0], 32) .leaf) 275 ([.int .u8 0, .int .u8 0, .int .u8 0, .int .u8 0, .int .u8 0, .int .u8 0, .int .u8 0, .int .u8 0, .int .u8 0, .int .u8 0, .int .u8 0, .int .u8 0, .int .u8 0, .int .u8 0, .int .u8 0, .int .u8 0, .int .u8 0, .int .u8 0, .int .u8 0, .int .u8 0, .int .u8 0, .int .u8 0, .int .u8 0, .int .u8 0], 24) .leaf) 280 ([.int .u64 0, .int .u64 0, .int .u64 0, .int .u64 0, .int .u64 0, .int .u64 0, .int .u64 0, .int .u64 0, .int .u64 0, .int .u64 0, .int .u64 0, .int .u64 0, .int .u64 0, .int .u64 0, .int .u64 0, .int .u64 0, .int .u64 0, .int .u64 0, .int .u64 0, .int .u64 0], 160) (.node .leaf 282 ([.int .u8 0, .int .u8 0, .int .u8 0, .int .u8 0, .int .u8 0, .int .u8 0, .int .u8 0, .int .u8 0, .int .u8 0, .int .u8 0, .int .u8 0, .int .u8 0, .int .u8 0, .int .u8 0, .int .u8 0, .int .u8 0, .int .u8 0, .int .u8 0, .int .u8 0, .int .u8 0, .int .u8 0, .int .u8 0, .int .u8 0, .int .u8 0, .int .u8 0, .int .u8 0, .int .u8 0, .int .u8 0, .int .u8 0, .int .u8 0, .int .u8 0, .int .u8 0, .int .u8 0, .int .u8 0, .int .u8 0, .int .u8 0, .int .u8 0, .int .u8 0, .int .u8 0, .int .u8 0, .int .u8 0, .int .u8 0, .int .u8 0, .int .u8 0, .int .u8 0, .int .u8 0, .int .u8 0, .int .u8 0, .int .u8 0, .int .u8 0, .int .u8 0, .int .u8 0, .int .u8 0, .int .u8 0, .int .u8 0, .int .u8 0, .int .u8 0, .int .u8 0, .int .u8 0, .int .u8 0, .int .u8 0, .int .u8 0, .int .u8 0, .int .u8 0], 64) .leaf)))))
set_option maxRecDepth 100000 in
def fnB : BT Unit := (.node (.node (.node (.node (.node (.node (.node (.node .leaf 6 () .leaf) 10 () .leaf) 12 () (.node .leaf 13 () .leaf)) 18 () (.node (.node (.node .leaf 19 () .leaf) 20 () .leaf) 21 () (.node .leaf 22 () .leaf))) 23 () (.node (.node (.node (.node .leaf 24 () .leaf) 25 () .leaf) 26 () (.node .leaf 27 () .leaf)) 28 () (.node (.node .leaf 29 () .leaf) 32 () (.node .leaf 33 () .leaf)))) 39 () (.node (.node (.node (.node (.node .leaf 40 () .leaf) 41 () .leaf) 42 () (.node .leaf 43 () .leaf)) 49 () (.node (.node (.node .leaf 50 () .leaf) 51 () .leaf) 52 () (.node .leaf 55 () .leaf))) 56 () (.node (.node (.node (.node .leaf 57 () .leaf) 58 () .leaf) 66 () (.node .leaf 67 () .leaf)) 81 () (.node (.node .leaf 82 () .leaf) 83 () (.node .leaf 84 () .leaf))))) 85 () (.node (.node (.node (.node (.node (.node .leaf 86 () .leaf) 87 () .leaf) 88 () (.node .leaf 89 () .leaf)) 90 () (.node (.node (.node .leaf 91 () .leaf) 92 () .leaf) 95 () (.node .leaf 98 () .leaf))) 100 () (.node (.node (.node (.node .leaf 101 () .leaf) 102 () .leaf) 103 () (.node .leaf 105 () .leaf)) 106 () (.node (.node .leaf 107 () .leaf) 108 () (.node .leaf 109 () .leaf)))) 113 () (.node (.node (.node (.node (.node .leaf 128 () .leaf) 129 () .leaf) 130 () (.node .leaf 131 () .leaf)) 132 () (.node (.node (.node .leaf 133 () .leaf) 134 () .leaf) 135 () (.node .leaf 136 () .leaf))) 137 () (.node (.node (.node (.node .leaf 138 () .leaf) 139 () .leaf) 140 () (.node .leaf 141 () .leaf)) 142 () (.node (.node .leaf 143 () .leaf) 144 () (.node .leaf 145 () .leaf)))))) 146 () (.node (.node (.node (.node (.node (.node (.node .leaf 150 () .leaf) 151 () .leaf) 152 () (.node .leaf 153 () .leaf)) 154 () (.node (.node (.node .leaf 155 () .leaf) 156 () .leaf) 157 () (.node .leaf 161 () .leaf))) 162 () (.node (.node (.node (.node .leaf 163 () .leaf) 164 () .leaf) 168 () (.node .leaf 169 () .leaf)) 172 () (.node (.node .leaf 173 () .leaf) 174 () (.node .leaf 175 () .leaf)))) 176 () (.node (.node (.node (.node (.node .leaf 177 () .leaf) 178 () .leaf) 179 () (.node .leaf 185 () .leaf)) 186 () (.node (.node (.node .leaf 187 () .leaf) 188 () .leaf) 189 () (.node .leaf 190 () .leaf))) 191 () (.node (.node (.node (.node .leaf 192 () .leaf) 193 () .leaf) 194 () (.node .leaf 206 () .leaf)) 216 () (.node (.node .leaf 217 () .leaf) 218 () (.node .leaf 219 () .leaf))))) 220 () (.node (.node (.node (.node (.node (.node .leaf 221 () .leaf) 222 () .leaf) 226 () (.node .leaf 227 () .leaf)) 228 () (.node (.node (.node .leaf 233 () .leaf) 234 () .leaf) 235 () (.node .leaf 236 () .leaf))) 237 () (.node (.node (.node (.node .leaf 238 () .leaf) 239 () .leaf) 240 () (.node .leaf 241 () .leaf)) 242 () (.node (.node .leaf 255 () .leaf) 256 () (.node .leaf 257 () .leaf)))) 258 () (.node (.node (.node (.node (.node .leaf 259 () .leaf) 266 () .leaf) 267 () (.node .leaf 268 () .leaf)) 269 () (.node (.node .leaf 270 () .leaf) 271 () (.node .leaf 273 () .leaf))) 281 () (.node (.node (.node (.node .leaf 282 () .leaf) 283 () .leaf) 284 () (.node .leaf 285 () .leaf)) 286 () (.node (.node .leaf 287 () .leaf) 288 () (.node .leaf 289 () .leaf)))))))
def BT.All {α : Type} (p : Nat × α → Prop) : BT α → Prop
  | .leaf => True
  | .node l k x r => l.All p ∧ p (k, x) ∧ r.All p
theorem lf {α : Type} {p : Nat × α → Prop} : BT.All p .leaf := trivial
theorem nd {α : Type} {p : Nat × α → Prop} {l r : BT α} {k : Nat} {x : α} (a : l.All p) (b : p (k, x)) (c : r.All p) : BT.All p (.node l k x r) := ⟨a, b, c⟩
theorem BT.all_mem {α : Type} {p : Nat × α → Prop} {y : Nat × α} : ∀ {b : BT α}, b.All p → y ∈ b.toL → p y
  | .leaf, _, h => by cases h
  | .node l k x r, ⟨h1, h2, h3⟩, h => by
    rw [BT.toL] at h
    rcases List.mem_append.1 h with h | h
    · exact BT.all_mem h1 h
    · rcases List.mem_cons.1 h with rfl | h
      · exact h2
      · exact BT.all_mem h3 h
noncomputable def T : Tab := { prog := Tryz.prog, und := look undB, inf := look infB, fn := fun f => (look fnB f).isSome, room := False }
set_option maxRecDepth 100000 in
theorem undOk : undB.All fun x => Tryz.prog.underlying x.1 = some x.2 := (nd (nd (nd (nd (nd (nd lf Tryz.underlying1 lf) Tryz.underlying2 lf) Tryz.underlying3 (nd (nd lf Tryz.underlying4 lf) Tryz.underlying5 lf)) Tryz.underlying9 (nd (nd (nd lf Tryz.underlying22 lf) Tryz.underlying24 lf) Tryz.underlying25 (nd (nd lf Tryz.underlying27 lf) Tryz.underlying28 lf))) Tryz.underlying32 (nd (nd (nd (nd lf Tryz.underlying35 lf) Tryz.underlying37 lf) Tryz.underlying48 (nd (nd lf Tryz.underlying51 lf) Tryz.underlying57 lf)) Tryz.underlying65 (nd (nd (nd lf Tryz.underlying68 lf) Tryz.underlying75 lf) Tryz.underlying76 (nd (nd lf Tryz.underlying80 lf) Tryz.underlying93 lf)))) Tryz.underlying96 (nd (nd (nd (nd (nd lf Tryz.underlying99 lf) Tryz.underlying104 lf) Tryz.underlying123 (nd (nd lf Tryz.underlying125 lf) Tryz.underlying142 lf)) Tryz.underlying146 (nd (nd (nd lf Tryz.underlying148 lf) Tryz.underlying149 lf) Tryz.underlying155 (nd (nd lf Tryz.underlying156 lf) Tryz.underlying157 lf))) Tryz.underlying159 (nd (nd (nd (nd lf Tryz.underlying164 lf) Tryz.underlying168 lf) Tryz.underlying190 (nd (nd lf Tryz.underlying194 lf) Tryz.underlying207 lf)) Tryz.underlying236 (nd (nd (nd lf Tryz.underlying274 lf) Tryz.underlying275 lf) Tryz.underlying280 (nd (nd lf Tryz.underlying281 lf) Tryz.underlying282 lf)))))
set_option maxRecDepth 100000 in
theorem infOk : infB.All fun x => ∃ i v, Tryz.prog.info? x.1 = some i ∧ i.zero = some v ∧ v.cells = x.2.1.toArray ∧ i.size = x.2.1.length ∧ i.bytes = x.2.2 := (nd (nd (nd (nd (nd (nd lf ⟨Tryz.t1, _, by kernel_rfl, rfl, rfl, rfl, rfl⟩ lf) ⟨Tryz.t2, _, by kernel_rfl, rfl, rfl, rfl, rfl⟩ lf) ⟨Tryz.t3, _, by kernel_rfl, rfl, rfl, rfl, rfl⟩ (nd (nd lf ⟨Tryz.t4, _, by kernel_rfl, rfl, rfl, rfl, rfl⟩ lf) ⟨Tryz.t5, _, by kernel_rfl, rfl, rfl, rfl, rfl⟩ lf)) ⟨Tryz.t9, _, by kernel_rfl, rfl, rfl, rfl, rfl⟩ (nd (nd (nd lf ⟨Tryz.t22, _, by kernel_rfl, rfl, rfl, rfl, rfl⟩ lf) ⟨Tryz.t24, _, by kernel_rfl, rfl, rfl, rfl, rfl⟩ lf) ⟨Tryz.t25, _, by kernel_rfl, rfl, rfl, rfl, rfl⟩ (nd (nd lf ⟨Tryz.t27, _, by kernel_rfl, rfl, rfl, rfl, rfl⟩ lf) ⟨Tryz.t28, _, by kernel_rfl, rfl, rfl, rfl, rfl⟩ lf))) ⟨Tryz.t32, _, by kernel_rfl, rfl, rfl, rfl, rfl⟩ (nd (nd (nd (nd lf ⟨Tryz.t35, _, by kernel_rfl, rfl, rfl, rfl, rfl⟩ lf) ⟨Tryz.t37, _, by kernel_rfl, rfl, rfl, rfl, rfl⟩ lf) ⟨Tryz.t48, _, by kernel_rfl, rfl, rfl, rfl, rfl⟩ (nd (nd lf ⟨Tryz.t51, _, by kernel_rfl, rfl, rfl, rfl, rfl⟩ lf) ⟨Tryz.t57, _, by kernel_rfl, rfl, rfl, rfl, rfl⟩ lf)) ⟨Tryz.t65, _, by kernel_rfl, rfl, rfl, rfl, rfl⟩ (nd (nd (nd lf ⟨Tryz.t68, _, by kernel_rfl, rfl, rfl, rfl, rfl⟩ lf) ⟨Tryz.t75, _, by kernel_rfl, rfl, rfl, rfl, rfl⟩ lf) ⟨Tryz.t76, _, by kernel_rfl, rfl, rfl, rfl, rfl⟩ (nd (nd lf ⟨Tryz.t80, _, by kernel_rfl, rfl, rfl, rfl, rfl⟩ lf) ⟨Tryz.t93, _, by kernel_rfl, rfl, rfl, rfl, rfl⟩ lf)))) ⟨Tryz.t96, _, by kernel_rfl, rfl, rfl, rfl, rfl⟩ (nd (nd (nd (nd (nd lf ⟨Tryz.t99, _, by kernel_rfl, rfl, rfl, rfl, rfl⟩ lf) ⟨Tryz.t104, _, by kernel_rfl, rfl, rfl, rfl, rfl⟩ lf) ⟨Tryz.t123, _, by kernel_rfl, rfl, rfl, rfl, rfl⟩ (nd (nd lf ⟨Tryz.t125, _, by kernel_rfl, rfl, rfl, rfl, rfl⟩ lf) ⟨Tryz.t142, _, by kernel_rfl, rfl, rfl, rfl, rfl⟩ lf)) ⟨Tryz.t146, _, by kernel_rfl, rfl, rfl, rfl, rfl⟩ (nd (nd (nd lf ⟨Tryz.t148, _, by kernel_rfl, rfl, rfl, rfl, rfl⟩ lf) ⟨Tryz.t149, _, by kernel_rfl, rfl, rfl, rfl, rfl⟩ lf) ⟨Tryz.t155, _, by kernel_rfl, rfl, rfl, rfl, rfl⟩ (nd (nd lf ⟨Tryz.t156, _, by kernel_rfl, rfl, rfl, rfl, rfl⟩ lf) ⟨Tryz.t157, _, by kernel_rfl, rfl, rfl, rfl, rfl⟩ lf))) ⟨Tryz.t159, _, by kernel_rfl, rfl, rfl, rfl, rfl⟩ (nd (nd (nd (nd lf ⟨Tryz.t164, _, by kernel_rfl, rfl, rfl, rfl, rfl⟩ lf) ⟨Tryz.t168, _, by kernel_rfl, rfl, rfl, rfl, rfl⟩ lf) ⟨Tryz.t194, _, by kernel_rfl, rfl, rfl, rfl, rfl⟩ (nd (nd lf ⟨Tryz.t207, _, by kernel_rfl, rfl, rfl, rfl, rfl⟩ lf) ⟨Tryz.t236, _, by kernel_rfl, rfl, rfl, rfl, rfl⟩ lf)) ⟨Tryz.t260, _, by kernel_rfl, rfl, rfl, rfl, rfl⟩ (nd (nd (nd lf ⟨Tryz.t274, _, by kernel_rfl, rfl, rfl, rfl, rfl⟩ lf) ⟨Tryz.t275, _, by kernel_rfl, rfl, rfl, rfl, rfl⟩ lf) ⟨Tryz.t280, _, by kernel_rfl, rfl, rfl, rfl, rfl⟩ (nd lf ⟨Tryz.t282, _, by kernel_rfl, rfl, rfl, rfl, rfl⟩ lf)))))
set_option maxRecDepth 100000 in
theorem fnOk : fnB.All fun x => ∀ args w, (callFunc x.1 args).run Tryz.prog w = .ok (.enter x.1 args) w := (nd (nd (nd (nd (nd (nd (nd (nd lf Tryz.call6 lf) Tryz.call10 lf) Tryz.call12 (nd lf Tryz.call13 lf)) Tryz.call18 (nd (nd (nd lf Tryz.call19 lf) Tryz.call20 lf) Tryz.call21 (nd lf Tryz.call22 lf))) Tryz.call23 (nd (nd (nd (nd lf Tryz.call24 lf) Tryz.call25 lf) Tryz.call26 (nd lf Tryz.call27 lf)) Tryz.call28 (nd (nd lf Tryz.call29 lf) Tryz.call32 (nd lf Tryz.call33 lf)))) Tryz.call39 (nd (nd (nd (nd (nd lf Tryz.call40 lf) Tryz.call41 lf) Tryz.call42 (nd lf Tryz.call43 lf)) Tryz.call49 (nd (nd (nd lf Tryz.call50 lf) Tryz.call51 lf) Tryz.call52 (nd lf Tryz.call55 lf))) Tryz.call56 (nd (nd (nd (nd lf Tryz.call57 lf) Tryz.call58 lf) Tryz.call66 (nd lf Tryz.call67 lf)) Tryz.call81 (nd (nd lf Tryz.call82 lf) Tryz.call83 (nd lf Tryz.call84 lf))))) Tryz.call85 (nd (nd (nd (nd (nd (nd lf Tryz.call86 lf) Tryz.call87 lf) Tryz.call88 (nd lf Tryz.call89 lf)) Tryz.call90 (nd (nd (nd lf Tryz.call91 lf) Tryz.call92 lf) Tryz.call95 (nd lf Tryz.call98 lf))) Tryz.call100 (nd (nd (nd (nd lf Tryz.call101 lf) Tryz.call102 lf) Tryz.call103 (nd lf Tryz.call105 lf)) Tryz.call106 (nd (nd lf Tryz.call107 lf) Tryz.call108 (nd lf Tryz.call109 lf)))) Tryz.call113 (nd (nd (nd (nd (nd lf Tryz.call128 lf) Tryz.call129 lf) Tryz.call130 (nd lf Tryz.call131 lf)) Tryz.call132 (nd (nd (nd lf Tryz.call133 lf) Tryz.call134 lf) Tryz.call135 (nd lf Tryz.call136 lf))) Tryz.call137 (nd (nd (nd (nd lf Tryz.call138 lf) Tryz.call139 lf) Tryz.call140 (nd lf Tryz.call141 lf)) Tryz.call142 (nd (nd lf Tryz.call143 lf) Tryz.call144 (nd lf Tryz.call145 lf)))))) Tryz.call146 (nd (nd (nd (nd (nd (nd (nd lf Tryz.call150 lf) Tryz.call151 lf) Tryz.call152 (nd lf Tryz.call153 lf)) Tryz.call154 (nd (nd (nd lf Tryz.call155 lf) Tryz.call156 lf) Tryz.call157 (nd lf Tryz.call161 lf))) Tryz.call162 (nd (nd (nd (nd lf Tryz.call163 lf) Tryz.call164 lf) Tryz.call168 (nd lf Tryz.call169 lf)) Tryz.call172 (nd (nd lf Tryz.call173 lf) Tryz.call174 (nd lf Tryz.call175 lf)))) Tryz.call176 (nd (nd (nd (nd (nd lf Tryz.call177 lf) Tryz.call178 lf) Tryz.call179 (nd lf Tryz.call185 lf)) Tryz.call186 (nd (nd (nd lf Tryz.call187 lf) Tryz.call188 lf) Tryz.call189 (nd lf Tryz.call190 lf))) Tryz.call191 (nd (nd (nd (nd lf Tryz.call192 lf) Tryz.call193 lf) Tryz.call194 (nd lf Tryz.call206 lf)) Tryz.call216 (nd (nd lf Tryz.call217 lf) Tryz.call218 (nd lf Tryz.call219 lf))))) Tryz.call220 (nd (nd (nd (nd (nd (nd lf Tryz.call221 lf) Tryz.call222 lf) Tryz.call226 (nd lf Tryz.call227 lf)) Tryz.call228 (nd (nd (nd lf Tryz.call233 lf) Tryz.call234 lf) Tryz.call235 (nd lf Tryz.call236 lf))) Tryz.call237 (nd (nd (nd (nd lf Tryz.call238 lf) Tryz.call239 lf) Tryz.call240 (nd lf Tryz.call241 lf)) Tryz.call242 (nd (nd lf Tryz.call255 lf) Tryz.call256 (nd lf Tryz.call257 lf)))) Tryz.call258 (nd (nd (nd (nd (nd lf Tryz.call259 lf) Tryz.call266 lf) Tryz.call267 (nd lf Tryz.call268 lf)) Tryz.call269 (nd (nd lf Tryz.call270 lf) Tryz.call271 (nd lf Tryz.call273 lf))) Tryz.call281 (nd (nd (nd (nd lf Tryz.call282 lf) Tryz.call283 lf) Tryz.call284 (nd lf Tryz.call285 lf)) Tryz.call286 (nd (nd lf Tryz.call287 lf) Tryz.call288 (nd lf Tryz.call289 lf)))))))
theorem mixedOk : Tryz.prog.follows .mixedOrders = true := by kernel_rfl
set_option maxRecDepth 100000 in
theorem ok : T.Ok where
  und t d h := BT.all_mem (y := (t, d)) undOk (look_mem h)
  inf t z n h := BT.all_mem (y := (t, (z, n))) infOk (look_mem h)
  fn f h args w := by
    obtain ⟨x, hx⟩ := Option.isSome_iff_exists.1 (show (look fnB f).isSome = true from h)
    exact BT.all_mem fnOk (look_mem hx) args w
  mixed := mixedOk
abbrev F.law04_ExprValid : Nat := 6
theorem D.law04_ExprValid : T.prog.funcs[F.law04_ExprValid]? = some Tryz.f6 := Tryz.func6
abbrev F.law04_sane : Nat := 10
theorem D.law04_sane : T.prog.funcs[F.law04_sane]? = some Tryz.f10 := Tryz.func10
abbrev F.ref01_Sgn : Nat := 12
theorem D.ref01_Sgn : T.prog.funcs[F.ref01_Sgn]? = some Tryz.f12 := Tryz.func12
abbrev F.ref01_Of : Nat := 13
theorem D.ref01_Of : T.prog.funcs[F.ref01_Of]? = some Tryz.f13 := Tryz.func13
abbrev F.ref04_Valid : Nat := 18
theorem D.ref04_Valid : T.prog.funcs[F.ref04_Valid]? = some Tryz.f18 := Tryz.func18
abbrev F.expr_Size : Nat := 19
theorem D.expr_Size : T.prog.funcs[F.expr_Size]? = some Tryz.f19 := Tryz.func19
abbrev F.ref04_Size : Nat := 20
theorem D.ref04_Size : T.prog.funcs[F.ref04_Size]? = some Tryz.f20 := Tryz.func20
abbrev F.expr_Vars : Nat := 21
abbrev F.ref04_Vars : Nat := 22
theorem D.ref04_Vars : T.prog.funcs[F.ref04_Vars]? = some Tryz.f22 := Tryz.func22
abbrev F.expr_Smooth : Nat := 23
theorem D.expr_Smooth : T.prog.funcs[F.expr_Smooth]? = some Tryz.f23 := Tryz.func23
abbrev F.ref04_Smooth : Nat := 24
theorem D.ref04_Smooth : T.prog.funcs[F.ref04_Smooth]? = some Tryz.f24 := Tryz.func24
abbrev F.expr_Valid : Nat := 25
theorem D.expr_Valid : T.prog.funcs[F.expr_Valid]? = some Tryz.f25 := Tryz.func25
abbrev F.law04_same : Nat := 26
theorem D.law04_same : T.prog.funcs[F.law04_same]? = some Tryz.f26 := Tryz.func26
abbrev F.expr_IsName : Nat := 27
theorem D.expr_IsName : T.prog.funcs[F.expr_IsName]? = some Tryz.f27 := Tryz.func27
abbrev F.expr_smooth : Nat := 28
abbrev F.expr_checked : Nat := 29
theorem D.expr_checked : T.prog.funcs[F.expr_checked]? = some Tryz.f29 := Tryz.func29
abbrev F.ref04_IsName : Nat := 32
theorem D.ref04_IsName : T.prog.funcs[F.ref04_IsName]? = some Tryz.f32 := Tryz.func32
abbrev F.ref04_rough : Nat := 33
theorem D.ref04_rough : T.prog.funcs[F.ref04_rough]? = some Tryz.f33 := Tryz.func33
abbrev F.expr_Parse : Nat := 39
theorem D.expr_Parse : T.prog.funcs[F.expr_Parse]? = some Tryz.f39 := Tryz.func39
abbrev F.expr_Print : Nat := 40
theorem D.expr_Print : T.prog.funcs[F.expr_Print]? = some Tryz.f40 := Tryz.func40
abbrev F.ref01_words : Nat := 41
theorem D.ref01_words : T.prog.funcs[F.ref01_words]? = some Tryz.f41 := Tryz.func41
abbrev F.ref01_NatOf : Nat := 42
theorem D.ref01_NatOf : T.prog.funcs[F.ref01_NatOf]? = some Tryz.f42 := Tryz.func42
abbrev F.ref01_Make : Nat := 43
theorem D.ref01_Make : T.prog.funcs[F.ref01_Make]? = some Tryz.f43 := Tryz.func43
abbrev F.ref04_walk : Nat := 49
theorem D.ref04_walk : T.prog.funcs[F.ref04_walk]? = some Tryz.f49 := Tryz.func49
abbrev F.expr_count : Nat := 50
theorem D.expr_count : T.prog.funcs[F.expr_count]? = some Tryz.f50 := Tryz.func50
abbrev F.ref04_Count : Nat := 51
theorem D.ref04_Count : T.prog.funcs[F.ref04_Count]? = some Tryz.f51 := Tryz.func51
abbrev F.expr_nodes : Nat := 52
abbrev F.ref04_Names : Nat := 55
theorem D.ref04_Names : T.prog.funcs[F.ref04_Names]? = some Tryz.f55 := Tryz.func55
abbrev F.syntax_IsName : Nat := 56
theorem D.syntax_IsName : T.prog.funcs[F.syntax_IsName]? = some Tryz.f56 := Tryz.func56
abbrev F.expr_rough : Nat := 57
abbrev F.expr_clone : Nat := 58
theorem D.expr_clone : T.prog.funcs[F.expr_clone]? = some Tryz.f58 := Tryz.func58
abbrev F.ref04_word : Nat := 66
theorem D.ref04_word : T.prog.funcs[F.ref04_word]? = some Tryz.f66 := Tryz.func66
abbrev F.ref04_reserved : Nat := 67
theorem D.ref04_reserved : T.prog.funcs[F.ref04_reserved]? = some Tryz.f67 := Tryz.func67
abbrev F.syntax_Scan : Nat := 81
theorem D.syntax_Scan : T.prog.funcs[F.syntax_Scan]? = some Tryz.f81 := Tryz.func81
abbrev F.syntax_New : Nat := 82
theorem D.syntax_New : T.prog.funcs[F.syntax_New]? = some Tryz.f82 := Tryz.func82
abbrev F.syntax_Run : Nat := 83
abbrev F.expr_Parse_1 : Nat := 84
theorem D.expr_Parse_1 : T.prog.funcs[F.expr_Parse_1]? = some Tryz.f84 := Tryz.func84
abbrev F.psyntax_Parser_Expr : Nat := 85
theorem D.psyntax_Parser_Expr : T.prog.funcs[F.psyntax_Parser_Expr]? = some Tryz.f85 := Tryz.func85
abbrev F.psyntax_Parser_Done : Nat := 86
theorem D.psyntax_Parser_Done : T.prog.funcs[F.psyntax_Parser_Done]? = some Tryz.f86 := Tryz.func86
abbrev F.psyntax_Parser_Check : Nat := 87
theorem D.psyntax_Parser_Check : T.prog.funcs[F.psyntax_Parser_Check]? = some Tryz.f87 := Tryz.func87
abbrev F.expr_text : Nat := 88
theorem D.expr_text : T.prog.funcs[F.expr_text]? = some Tryz.f88 := Tryz.func88
abbrev F.ref01_trim : Nat := 89
theorem D.ref01_trim : T.prog.funcs[F.ref01_trim]? = some Tryz.f89 := Tryz.func89
abbrev F.ref01_NatGcd : Nat := 90
theorem D.ref01_NatGcd : T.prog.funcs[F.ref01_NatGcd]? = some Tryz.f90 := Tryz.func90
abbrev F.ref01_NatDiv : Nat := 91
theorem D.ref01_NatDiv : T.prog.funcs[F.ref01_NatDiv]? = some Tryz.f91 := Tryz.func91
abbrev F.number_Canon : Nat := 92
theorem D.number_Canon : T.prog.funcs[F.number_Canon]? = some Tryz.f92 := Tryz.func92
abbrev F.ref01_NatMul : Nat := 95
theorem D.ref01_NatMul : T.prog.funcs[F.ref01_NatMul]? = some Tryz.f95 := Tryz.func95
abbrev F.ref01_NatCmp : Nat := 98
theorem D.ref01_NatCmp : T.prog.funcs[F.ref01_NatCmp]? = some Tryz.f98 := Tryz.func98
abbrev F.ref04_node : Nat := 100
theorem D.ref04_node : T.prog.funcs[F.ref04_node]? = some Tryz.f100 := Tryz.func100
abbrev F.expr_fields : Nat := 101
theorem D.expr_fields : T.prog.funcs[F.expr_fields]? = some Tryz.f101 := Tryz.func101
abbrev F.expr_nodes_1 : Nat := 102
abbrev F.expr_each : Nat := 103
abbrev F.slices_Sort_of__of_string_string : Nat := 105
abbrev F.maps_Keys_of_map_of_stringbool_string_bool_1 : Nat := 106
abbrev F.ref04_put : Nat := 107
theorem D.ref04_put : T.prog.funcs[F.ref04_put]? = some Tryz.f107 := Tryz.func107
abbrev F.syntax_word : Nat := 108
theorem D.syntax_word : T.prog.funcs[F.syntax_word]? = some Tryz.f108 := Tryz.func108
abbrev F.syntax_Reserved : Nat := 109
theorem D.syntax_Reserved : T.prog.funcs[F.syntax_Reserved]? = some Tryz.f109 := Tryz.func109
abbrev F.word_Frac_Sign : Nat := 113
theorem D.word_Frac_Sign : T.prog.funcs[F.word_Frac_Sign]? = some Tryz.f113 := Tryz.func113
abbrev F.elem_Find : Nat := 128
theorem D.elem_Find : T.prog.funcs[F.elem_Find]? = some Tryz.f128 := Tryz.func128
abbrev F.syntax_number : Nat := 129
theorem D.syntax_number : T.prog.funcs[F.syntax_number]? = some Tryz.f129 := Tryz.func129
abbrev F.strings_HasPrefix : Nat := 130
theorem D.strings_HasPrefix : T.prog.funcs[F.strings_HasPrefix]? = some Tryz.f130 := Tryz.func130
abbrev F.syntax_Run_1 : Nat := 131
abbrev F.psyntax_Parser_term : Nat := 132
theorem D.psyntax_Parser_term : T.prog.funcs[F.psyntax_Parser_term]? = some Tryz.f132 := Tryz.func132
abbrev F.psyntax_Parser_Accept : Nat := 133
theorem D.psyntax_Parser_Accept : T.prog.funcs[F.psyntax_Parser_Accept]? = some Tryz.f133 := Tryz.func133
abbrev F.syntax_node : Nat := 134
theorem D.syntax_node : T.prog.funcs[F.syntax_node]? = some Tryz.f134 := Tryz.func134
abbrev F.psyntax_Parser_Fail : Nat := 135
theorem D.psyntax_Parser_Fail : T.prog.funcs[F.psyntax_Parser_Fail]? = some Tryz.f135 := Tryz.func135
abbrev F.strings_Cut : Nat := 136
theorem D.strings_Cut : T.prog.funcs[F.strings_Cut]? = some Tryz.f136 := Tryz.func136
abbrev F.strings_Trim : Nat := 137
theorem D.strings_Trim : T.prog.funcs[F.strings_Trim]? = some Tryz.f137 := Tryz.func137
abbrev F.number_Parse : Nat := 138
theorem D.number_Parse : T.prog.funcs[F.number_Parse]? = some Tryz.f138 := Tryz.func138
abbrev F.expr_write : Nat := 139
theorem D.expr_write : T.prog.funcs[F.expr_write]? = some Tryz.f139 := Tryz.func139
abbrev F.pstrings_Builder_String : Nat := 140
theorem D.pstrings_Builder_String : T.prog.funcs[F.pstrings_Builder_String]? = some Tryz.f140 := Tryz.func140
abbrev F.ref01_small : Nat := 141
theorem D.ref01_small : T.prog.funcs[F.ref01_small]? = some Tryz.f141 := Tryz.func141
abbrev F.ref01_NatShl : Nat := 142
theorem D.ref01_NatShl : T.prog.funcs[F.ref01_NatShl]? = some Tryz.f142 := Tryz.func142
abbrev F.ref01_digit : Nat := 143
theorem D.ref01_digit : T.prog.funcs[F.ref01_digit]? = some Tryz.f143 := Tryz.func143
abbrev F.ref01_NatShr : Nat := 144
theorem D.ref01_NatShr : T.prog.funcs[F.ref01_NatShr]? = some Tryz.f144 := Tryz.func144
abbrev F.number_one : Nat := 145
theorem D.number_one : T.prog.funcs[F.number_one]? = some Tryz.f145 := Tryz.func145
abbrev F.number_Canon_1 : Nat := 146
theorem D.number_Canon_1 : T.prog.funcs[F.number_Canon_1]? = some Tryz.f146 := Tryz.func146
abbrev F.ref04_kids : Nat := 150
theorem D.ref04_kids : T.prog.funcs[F.ref04_kids]? = some Tryz.f150 := Tryz.func150
abbrev F.ref04_argument : Nat := 151
theorem D.ref04_argument : T.prog.funcs[F.ref04_argument]? = some Tryz.f151 := Tryz.func151
abbrev F.ref01_Large : Nat := 152
theorem D.ref01_Large : T.prog.funcs[F.ref01_Large]? = some Tryz.f152 := Tryz.func152
abbrev F.ref01_Zero : Nat := 153
theorem D.ref01_Zero : T.prog.funcs[F.ref01_Zero]? = some Tryz.f153 := Tryz.func153
abbrev F.expr_kids : Nat := 154
theorem D.expr_kids : T.prog.funcs[F.expr_kids]? = some Tryz.f154 := Tryz.func154
abbrev F.word_Of : Nat := 155
theorem D.word_Of : T.prog.funcs[F.word_Of]? = some Tryz.f155 := Tryz.func155
abbrev F.word_Nat_Zero : Nat := 156
theorem D.word_Nat_Zero : T.prog.funcs[F.word_Nat_Zero]? = some Tryz.f156 := Tryz.func156
abbrev F.word_Read : Nat := 157
theorem D.word_Read : T.prog.funcs[F.word_Read]? = some Tryz.f157 := Tryz.func157
abbrev F.syntax_letter : Nat := 161
theorem D.syntax_letter : T.prog.funcs[F.syntax_letter]? = some Tryz.f161 := Tryz.func161
abbrev F.syntax_digit : Nat := 162
theorem D.syntax_digit : T.prog.funcs[F.syntax_digit]? = some Tryz.f162 := Tryz.func162
abbrev F.word_Frac_Give : Nat := 163
theorem D.word_Frac_Give : T.prog.funcs[F.word_Frac_Give]? = some Tryz.f163 := Tryz.func163
abbrev F.word_Nat_Pow : Nat := 164
theorem D.word_Nat_Pow : T.prog.funcs[F.word_Nat_Pow]? = some Tryz.f164 := Tryz.func164
abbrev F.word_Small : Nat := 168
theorem D.word_Small : T.prog.funcs[F.word_Small]? = some Tryz.f168 := Tryz.func168
abbrev F.ref01_Over : Nat := 169
theorem D.ref01_Over : T.prog.funcs[F.ref01_Over]? = some Tryz.f169 := Tryz.func169
abbrev F.elem_names : Nat := 172
theorem D.elem_names : T.prog.funcs[F.elem_names]? = some Tryz.f172 := Tryz.func172
abbrev F.syntax_digits : Nat := 173
theorem D.syntax_digits : T.prog.funcs[F.syntax_digits]? = some Tryz.f173 := Tryz.func173
abbrev F.internal_stringslite_HasPrefix : Nat := 174
theorem D.internal_stringslite_HasPrefix : T.prog.funcs[F.internal_stringslite_HasPrefix]? = some Tryz.f174 := Tryz.func174
abbrev F.psyntax_Parser_factor : Nat := 175
theorem D.psyntax_Parser_factor : T.prog.funcs[F.psyntax_Parser_factor]? = some Tryz.f175 := Tryz.func175
abbrev F.psyntax_Parser_At : Nat := 176
theorem D.psyntax_Parser_At : T.prog.funcs[F.psyntax_Parser_At]? = some Tryz.f176 := Tryz.func176
abbrev F.internal_stringslite_Cut : Nat := 177
theorem D.internal_stringslite_Cut : T.prog.funcs[F.internal_stringslite_Cut]? = some Tryz.f177 := Tryz.func177
abbrev F.strings_trimLeftByte : Nat := 178
theorem D.strings_trimLeftByte : T.prog.funcs[F.strings_trimLeftByte]? = some Tryz.f178 := Tryz.func178
abbrev F.strings_trimRightByte : Nat := 179
theorem D.strings_trimRightByte : T.prog.funcs[F.strings_trimRightByte]? = some Tryz.f179 := Tryz.func179
abbrev F.number_run : Nat := 185
theorem D.number_run : T.prog.funcs[F.number_run]? = some Tryz.f185 := Tryz.func185
abbrev F.word_Reduce : Nat := 186
theorem D.word_Reduce : T.prog.funcs[F.word_Reduce]? = some Tryz.f186 := Tryz.func186
abbrev F.number_natural : Nat := 187
theorem D.number_natural : T.prog.funcs[F.number_natural]? = some Tryz.f187 := Tryz.func187
abbrev F.number_Format : Nat := 188
theorem D.number_Format : T.prog.funcs[F.number_Format]? = some Tryz.f188 := Tryz.func188
abbrev F.pstrings_Builder_WriteString : Nat := 189
theorem D.pstrings_Builder_WriteString : T.prog.funcs[F.pstrings_Builder_WriteString]? = some Tryz.f189 := Tryz.func189
abbrev F.expr_place : Nat := 190
theorem D.expr_place : T.prog.funcs[F.expr_place]? = some Tryz.f190 := Tryz.func190
abbrev F.expr_infix : Nat := 191
theorem D.expr_infix : T.prog.funcs[F.expr_infix]? = some Tryz.f191 := Tryz.func191
abbrev F.strconv_Itoa : Nat := 192
abbrev F.expr_list : Nat := 193
theorem D.expr_list : T.prog.funcs[F.expr_list]? = some Tryz.f193 := Tryz.func193
abbrev F.ref01_less : Nat := 194
theorem D.ref01_less : T.prog.funcs[F.ref01_less]? = some Tryz.f194 := Tryz.func194
abbrev F.word_Frac_Fits : Nat := 206
theorem D.word_Frac_Fits : T.prog.funcs[F.word_Frac_Fits]? = some Tryz.f206 := Tryz.func206
abbrev F.math_bits_Len32 : Nat := 216
theorem D.math_bits_Len32 : T.prog.funcs[F.math_bits_Len32]? = some Tryz.f216 := Tryz.func216
abbrev F.math_bits_Len64 : Nat := 217
abbrev F.slices_Clone_of__of_uint32_uint32 : Nat := 218
theorem D.slices_Clone_of__of_uint32_uint32 : T.prog.funcs[F.slices_Clone_of__of_uint32_uint32]? = some Tryz.f218 := Tryz.func218
abbrev F.word_Nat_One : Nat := 219
theorem D.word_Nat_One : T.prog.funcs[F.word_Nat_One]? = some Tryz.f219 := Tryz.func219
abbrev F.word_Nat_Mul : Nat := 220
theorem D.word_Nat_Mul : T.prog.funcs[F.word_Nat_Mul]? = some Tryz.f220 := Tryz.func220
abbrev F.word_Nat_Add : Nat := 221
theorem D.word_Nat_Add : T.prog.funcs[F.word_Nat_Add]? = some Tryz.f221 := Tryz.func221
abbrev F.word_Nat_Cmp : Nat := 222
theorem D.word_Nat_Cmp : T.prog.funcs[F.word_Nat_Cmp]? = some Tryz.f222 := Tryz.func222
abbrev F.psyntax_Parser_atom : Nat := 226
theorem D.psyntax_Parser_atom : T.prog.funcs[F.psyntax_Parser_atom]? = some Tryz.f226 := Tryz.func226
abbrev F.psyntax_Parser_count : Nat := 227
theorem D.psyntax_Parser_count : T.prog.funcs[F.psyntax_Parser_count]? = some Tryz.f227 := Tryz.func227
abbrev F.internal_stringslite_Index : Nat := 228
theorem D.internal_stringslite_Index : T.prog.funcs[F.internal_stringslite_Index]? = some Tryz.f228 := Tryz.func228
abbrev F.word_Nat_Twos : Nat := 233
theorem D.word_Nat_Twos : T.prog.funcs[F.word_Nat_Twos]? = some Tryz.f233 := Tryz.func233
abbrev F.word_Nat_Shr : Nat := 234
theorem D.word_Nat_Shr : T.prog.funcs[F.word_Nat_Shr]? = some Tryz.f234 := Tryz.func234
abbrev F.word_Nat_Bits : Nat := 235
theorem D.word_Nat_Bits : T.prog.funcs[F.word_Nat_Bits]? = some Tryz.f235 := Tryz.func235
abbrev F.word_Nat_GCD : Nat := 236
theorem D.word_Nat_GCD : T.prog.funcs[F.word_Nat_GCD]? = some Tryz.f236 := Tryz.func236
abbrev F.word_Nat_Div : Nat := 237
theorem D.word_Nat_Div : T.prog.funcs[F.word_Nat_Div]? = some Tryz.f237 := Tryz.func237
abbrev F.number_decimal : Nat := 238
theorem D.number_decimal : T.prog.funcs[F.number_decimal]? = some Tryz.f238 := Tryz.func238
abbrev F.pstrings_Builder_copyCheck : Nat := 239
abbrev F.expr_level : Nat := 240
theorem D.expr_level : T.prog.funcs[F.expr_level]? = some Tryz.f240 := Tryz.func240
abbrev F.internal_strconv_Itoa : Nat := 241
abbrev F.elem_Name : Nat := 242
theorem D.elem_Name : T.prog.funcs[F.elem_Name]? = some Tryz.f242 := Tryz.func242
abbrev F.psyntax_Parser_Next : Nat := 255
theorem D.psyntax_Parser_Next : T.prog.funcs[F.psyntax_Parser_Next]? = some Tryz.f255 := Tryz.func255
abbrev F.psyntax_Parser_kids : Nat := 256
theorem D.psyntax_Parser_kids : T.prog.funcs[F.psyntax_Parser_kids]? = some Tryz.f256 := Tryz.func256
abbrev F.psyntax_Parser_Want : Nat := 257
theorem D.psyntax_Parser_Want : T.prog.funcs[F.psyntax_Parser_Want]? = some Tryz.f257 := Tryz.func257
abbrev F.psyntax_Parser_Number : Nat := 258
theorem D.psyntax_Parser_Number : T.prog.funcs[F.psyntax_Parser_Number]? = some Tryz.f258 := Tryz.func258
abbrev F.internal_stringslite_IndexByte : Nat := 259
abbrev F.math_bits_TrailingZeros32 : Nat := 266
theorem D.math_bits_TrailingZeros32 : T.prog.funcs[F.math_bits_TrailingZeros32]? = some Tryz.f266 := Tryz.func266
abbrev F.word_Nat_DivSmall : Nat := 267
theorem D.word_Nat_DivSmall : T.prog.funcs[F.word_Nat_DivSmall]? = some Tryz.f267 := Tryz.func267
abbrev F.math_bits_LeadingZeros32 : Nat := 268
theorem D.math_bits_LeadingZeros32 : T.prog.funcs[F.math_bits_LeadingZeros32]? = some Tryz.f268 := Tryz.func268
abbrev F.word_Nat_Shl : Nat := 269
theorem D.word_Nat_Shl : T.prog.funcs[F.word_Nat_Shl]? = some Tryz.f269 := Tryz.func269
abbrev F.word_digit : Nat := 270
theorem D.word_digit : T.prog.funcs[F.word_digit]? = some Tryz.f270 := Tryz.func270
abbrev F.slices_Reverse_of__of_byte_byte : Nat := 271
theorem D.slices_Reverse_of__of_byte_byte : T.prog.funcs[F.slices_Reverse_of__of_byte_byte]? = some Tryz.f271 := Tryz.func271
abbrev F.internal_strconv_FormatInt : Nat := 273
abbrev F.internal_strconv_small : Nat := 281
abbrev F.internal_strconv_numDigits : Nat := 282
abbrev F.internal_strconv_formatBase10 : Nat := 283
abbrev F.internal_strconv_formatBits : Nat := 284
abbrev F.internal_strconv_log10Pow2 : Nat := 285
abbrev F.internal_strconv_bool2_of_int : Nat := 286
abbrev F.internal_strconv_isPowerOfTwo : Nat := 287
abbrev F.math_bits_TrailingZeros : Nat := 288
abbrev F.math_bits_TrailingZeros64 : Nat := 289
abbrev Ty.int64 : Nat := 2
abbrev Ty.int : Nat := 3
abbrev Ty.bool : Nat := 4
abbrev Ty.uint8 : Nat := 5
abbrev Ty.int32 : Nat := 21
abbrev Ty.api_Rat : Nat := 24
abbrev Ty.api_Expr : Nat := 27
abbrev Ty.api_Errno : Nat := 28
abbrev Ty.ref01_Nat : Nat := 35
abbrev Ty.ref01_Q : Nat := 37
abbrev Ty.law04_Parts : Nat := 41
abbrev Ty.uint64 : Nat := 68
abbrev Ty.syntax_Fault : Nat := 99
abbrev Ty.uint32 : Nat := 104
abbrev Ty.api_Value : Nat := 111
abbrev Ty.word_Nat : Nat := 123
abbrev Ty.word_Frac : Nat := 125
abbrev Ty.expr_operand : Nat := 134
abbrev Ty.syntax_Token : Nat := 142
abbrev Ty.syntax_Parser : Nat := 148
abbrev Ty.syntax_count : Nat := 155
abbrev Gl.internal_bytealg_MaxLen : Nat := 0
abbrev Gl.unicode_utf8_first : Nat := 1
abbrev Gl.unicode_utf8_acceptRanges : Nat := 2
abbrev Gl.math_bits_deBruijn32tab : Nat := 3
abbrev Gl.internal_strconv_uint64pow10 : Nat := 4
abbrev Gl.math_bits_deBruijn64tab : Nat := 5
end Go.Proofs.YtbgicephinomlaaGreatDoor