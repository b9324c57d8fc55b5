/- The tables of this seat's translation as the engine wants them: the types' shapes and zero values, the functions' numbers by name. Printed by program; every row is checked by Lean. -/
import Derived.Test.YtieblmbjldlaeaaGreatDoorProg
import Derived.Test.YtieblmbjldlaeaaGreatDoorVcRule
import Derived.KernelRfl
set_option linter.unusedVariables false
set_option linter.unusedSimpArgs false
set_option maxRecDepth 100000
namespace Go.Proofs.Y
open Go Go.Vc
inductive BT (α : Type) where
  | leaf
  | node (l : BT α) (k : Nat) (x : α) (r : BT α)
def yR {α : Type} : BT α → Nat → Option α
  | .leaf, _ => none
  | .node l k x r, t => match Nat.beq t k with
    | true => some x
    | false => match Nat.blt t k with
      | true => yR l t
      | false => yR r t
def BT.toL {α : Type} : BT α → List (Nat × α)
  | .leaf => []
  | .node l k x r => l.toL ++ (k, x) :: r.toL
theorem mY {α : Type} : ∀ {b : BT α} {t : Nat} {x : α}, yR b t = some x → (t, x) ∈ b.toL
  | .leaf, _, _, h => by simp [yR] at h
  | .node l k y r, t, x, h => by
    simp only [yR] at h
    split at h
    · rename_i e
      obtain rfl := Nat.eq_of_beq_eq_true e
      cases h; simp [BT.toL]
    · split at h
      · exact List.mem_append_left _ (mY h)
      · exact List.mem_append_right _ (aVz _ (mY h))
def aSb : BT TypeDesc := (.node (.node (.node (.node (.node (.node .leaf 1 (.func #[] #[] false) .leaf) 2 (.int .i64) (.node .leaf 3 (.int .i64) .leaf)) 4 (.bool) (.node (.node .leaf 5 (.int .u8) .leaf) 9 (.string) (.node .leaf 22 (.slice 74) .leaf))) 24 (.struct #[⟨"Neg", 4, 0, false, "", "", 0⟩, ⟨"Num", 22, 1, false, "", "", 8⟩, ⟨"Den", 22, 2, false, "", "", 32⟩]) (.node (.node (.node .leaf 25 (.slice 27) .leaf) 27 (.struct #[⟨"Op", 3, 0, false, "", "", 0⟩, ⟨"Arg", 3, 1, false, "", "", 8⟩, ⟨"Num", 24, 2, false, "", "", 16⟩, ⟨"Name", 9, 5, false, "", "", 72⟩, ⟨"Kids", 25, 6, false, "", "", 88⟩]) (.node .leaf 28 (.slice 37) .leaf)) 29 (.int .i64) (.node (.node .leaf 32 (.func #[28, 28] #[4] false) .leaf) 35 (.slice 57) .leaf))) 37 (.struct #[⟨"Coef", 24, 0, false, "", "", 0⟩, ⟨"Factors", 35, 3, false, "", "", 56⟩]) (.node (.node (.node (.node .leaf 44 (.slice 52) .leaf) 45 (.slice 52) (.node .leaf 48 (.slice 74) .leaf)) 50 (.struct #[⟨"Neg", 4, 0, false, "", "", 0⟩, ⟨"Num", 48, 1, false, "", "", 8⟩, ⟨"Den", 48, 2, false, "", "", 32⟩]) (.node (.node .leaf 52 (.struct #[⟨"coef", 50, 0, false, "", "inequality/expr", 0⟩, ⟨"factors", 35, 3, false, "", "inequality/expr", 56⟩]) .leaf) 57 (.struct #[⟨"Atom", 9, 0, false, "", "", 0⟩, ⟨"Exp", 3, 1, false, "", "", 16⟩]) (.node .leaf 58 (.slice 66) .leaf))) 62 (.slice 74) (.node (.node (.node .leaf 64 (.struct #[⟨"Neg", 4, 0, false, "", "", 0⟩, ⟨"N", 62, 1, false, "", "", 8⟩, ⟨"D", 62, 2, false, "", "", 32⟩]) .leaf) 65 (.struct #[⟨"c", 64, 0, false, "", "inequality/inequalityref04", 0⟩, ⟨"f", 35, 3, false, "", "inequality/inequalityref04", 56⟩]) (.node .leaf 66 (.struct #[⟨"c", 64, 0, false, "", "inequality/inequalityref04", 0⟩, ⟨"f", 35, 3, false, "", "inequality/inequalityref04", 56⟩]) .leaf)) 74 (.int .u32) (.node (.node .leaf 82 (.struct #[⟨"why", 29, 0, false, "", "inequality/expr", 0⟩]) .leaf) 93 (.slice 130) .leaf)))) 96 (.pointer 138) (.node (.node (.node (.node (.node .leaf 99 (.struct #[⟨"Err", 29, 0, false, "", "", 0⟩, ⟨"At", 3, 1, false, "", "", 8⟩]) .leaf) 107 (.int .u64) (.node .leaf 128 (.slice 9) .leaf)) 130 (.struct #[⟨"Kind", 3, 0, false, "", "", 0⟩, ⟨"Text", 9, 1, false, "", "", 8⟩, ⟨"At", 3, 2, false, "", "", 24⟩]) (.node (.node .leaf 136 (.slice 146) .leaf) 138 (.struct #[⟨"tokens", 93, 0, false, "", "inequality/syntax", 0⟩, ⟨"next", 3, 1, false, "", "inequality/syntax", 24⟩, ⟨"end", 3, 2, false, "", "inequality/syntax", 32⟩, ⟨"counts", 136, 3, false, "", "inequality/syntax", 40⟩]) (.node .leaf 140 (.slice 99) .leaf))) 146 (.struct #[⟨"at", 3, 0, false, "", "inequality/syntax", 0⟩, ⟨"low", 3, 1, false, "", "inequality/syntax", 8⟩, ⟨"high", 3, 2, false, "", "inequality/syntax", 16⟩, ⟨"n", 3, 3, false, "", "inequality/syntax", 24⟩]) (.node (.node (.node .leaf 148 (.pointer 151) .leaf) 149 (.slice 5) (.node .leaf 151 (.struct #[⟨"addr", 148, 0, false, "", "strings", 0⟩, ⟨"buf", 149, 1, false, "", "strings", 8⟩]) .leaf)) 168 (.func #[50] #[50] false) (.node (.node .leaf 179 (.array 256 4) .leaf) 183 (.pointer 179) .leaf))) 196 (.pointer 5) (.node (.node (.node (.node .leaf 200 (.int .u64) .leaf) 206 (.func #[52, 52] #[3] false) (.node .leaf 208 (.func #[52] #[4] false) .leaf)) 209 (.map 9 3) (.node (.node .leaf 210 (.slice 35) .leaf) 213 (.func #[57, 57] #[3] false) .leaf)) 220 (.map 3 9) (.node (.node (.node .leaf 243 (.array 32 5) .leaf) 246 (.slice 3) (.node .leaf 263 (.array 24 5) .leaf)) 274 (.array 20 107) (.node (.node .leaf 275 (.array 65 5) .leaf) 279 (.array 64 5) .leaf)))))
def aSc : BT (List Value × Nat) := (.node (.node (.node (.node (.node (.node .leaf 1 ([.nilFunc], 8) .leaf) 2 ([.int .i64 0], 8) (.node .leaf 3 ([.int .i64 0], 8) .leaf)) 4 ([.bool false], 1) (.node (.node .leaf 5 ([.int .u8 0], 1) .leaf) 9 ([.string ByteArray.empty], 16) (.node .leaf 22 ([.slice none 0 0], 24) .leaf))) 24 ([.bool false, .slice none 0 0, .slice none 0 0], 56) (.node (.node (.node .leaf 25 ([.slice none 0 0], 24) .leaf) 27 ([.int .i64 0, .int .i64 0, .bool false, .slice none 0 0, .slice none 0 0, .string ByteArray.empty, .slice none 0 0], 112) (.node .leaf 28 ([.slice none 0 0], 24) .leaf)) 29 ([.int .i64 0], 8) (.node (.node .leaf 32 ([.nilFunc], 8) .leaf) 35 ([.slice none 0 0], 24) .leaf))) 37 ([.bool false, .slice none 0 0, .slice none 0 0, .slice none 0 0], 80) (.node (.node (.node (.node .leaf 44 ([.slice none 0 0], 24) .leaf) 45 ([.slice none 0 0], 24) (.node .leaf 48 ([.slice none 0 0], 24) .leaf)) 50 ([.bool false, .slice none 0 0, .slice none 0 0], 56) (.node (.node .leaf 52 ([.bool false, .slice none 0 0, .slice none 0 0, .slice none 0 0], 80) .leaf) 57 ([.string ByteArray.empty, .int .i64 0], 24) .leaf)) 58 ([.slice none 0 0], 24) (.node (.node (.node .leaf 62 ([.slice none 0 0], 24) .leaf) 64 ([.bool false, .slice none 0 0, .slice none 0 0], 56) (.node .leaf 65 ([.bool false, .slice none 0 0, .slice none 0 0, .slice none 0 0], 80) .leaf)) 66 ([.bool false, .slice none 0 0, .slice none 0 0, .slice none 0 0], 80) (.node (.node .leaf 74 ([.int .u32 0], 4) .leaf) 82 ([.int .i64 0], 8) .leaf)))) 93 ([.slice none 0 0], 24) (.node (.node (.node (.node (.node .leaf 96 ([.pointer none], 8) .leaf) 99 ([.int .i64 0, .int .i64 0], 16) (.node .leaf 107 ([.int .u64 0], 8) .leaf)) 128 ([.slice none 0 0], 24) (.node (.node .leaf 130 ([.int .i64 0, .string ByteArray.empty, .int .i64 0], 32) .leaf) 136 ([.slice none 0 0], 24) (.node .leaf 138 ([.slice none 0 0, .int .i64 0, .int .i64 0, .slice none 0 0], 64) .leaf))) 140 ([.slice none 0 0], 24) (.node (.node (.node .leaf 146 ([.int .i64 0, .int .i64 0, .int .i64 0, .int .i64 0], 32) .leaf) 148 ([.pointer none], 8) (.node .leaf 149 ([.slice none 0 0], 24) .leaf)) 151 ([.pointer none, .slice none 0 0], 32) (.node (.node .leaf 168 ([.nilFunc], 8) .leaf) 183 ([.pointer none], 8) .leaf))) 196 ([.pointer none], 8) (.node (.node (.node (.node .leaf 200 ([.int .u64 0], 8) .leaf) 206 ([.nilFunc], 8) (.node .leaf 208 ([.nilFunc], 8) .leaf)) 209 ([.map none], 8) (.node (.node .leaf 210 ([.slice none 0 0], 24) .leaf) 213 ([.nilFunc], 8) .leaf)) 220 ([.map none], 8) (.node (.node (.node .leaf 240 ([.pointer none], 8) .leaf) 243 ([.int .u8 0, .int .u8 0, .int .u8 0, .int .u8 0, .int .u8 0, .int .u8 0, .int .u8 0, .int .u8 0, .int .u8 0, .int .u8 0, .int .u8 0, .int .u8 0, .int .u8 0, .int .u8 0, .int .u8 0, .int .u8 0, .int .u8 0, .int .u8 0, .int .u8 0, .int .u8 0, .int .u8 0, .int .u8 0, .int .u8 0, .int .u8 0, .int .u8 0, .int .u8 0, .int .u8 0, .int .u8 0, .int .u8 0, .int .u8 0, .int .u8 0, .int .u8 0], 32) (.node .leaf 246 ([.slice none 0 0], 24) .leaf)) 263 ([.int .u8 0, .int .u8 0, .int .u8 0, .int .u8 0, .int .u8 0, .int .u8 0, .int .u8 0, .int .u8 0, .int .u8 0, .int .u8 0, .int .u8 0, .int .u8 0, .int .u8 0, .int .u8 0, .int .u8 0, .int .u8 0, .int .u8 0, .int .u8 0, .int .u8 0, .int .u8 0, .int .u8 0, .int .u8 0, .int .u8 0, .int .u8 0], 24) (.node (.node .leaf 274 ([.int .u64 0, .int .u64 0, .int .u64 0, .int .u64 0, .int .u64 0, .int .u64 0, .int .u64 0, .int .u64 0, .int .u64 0, .int .u64 0, .int .u64 0, .int .u64 0, .int .u64 0, .int .u64 0, .int .u64 0, .int .u64 0, .int .u64 0, .int .u64 0, .int .u64 0, .int .u64 0], 160) .leaf) 279 ([.int .u8 0, .int .u8 0, .int .u8 0, .int .u8 0, .int .u8 0, .int .u8 0, .int .u8 0, .int .u8 0, .int .u8 0, .int .u8 0, .int .u8 0, .int .u8 0, .int .u8 0, .int .u8 0, .int .u8 0, .int .u8 0, .int .u8 0, .int .u8 0, .int .u8 0, .int .u8 0, .int .u8 0, .int .u8 0, .int .u8 0, .int .u8 0, .int .u8 0, .int .u8 0, .int .u8 0, .int .u8 0, .int .u8 0, .int .u8 0, .int .u8 0, .int .u8 0, .int .u8 0, .int .u8 0, .int .u8 0, .int .u8 0, .int .u8 0, .int .u8 0, .int .u8 0, .int .u8 0, .int .u8 0, .int .u8 0, .int .u8 0, .int .u8 0, .int .u8 0, .int .u8 0, .int .u8 0, .int .u8 0, .int .u8 0, .int .u8 0, .int .u8 0, .int .u8 0, .int .u8 0, .int .u8 0, .int .u8 0, .int .u8 0, .int .u8 0, .int .u8 0, .int .u8 0, .int .u8 0, .int .u8 0, .int .u8 0, .int .u8 0, .int .u8 0], 64) .leaf)))))
def fnB : BT Unit := (.node (.node (.node (.node (.node (.node (.node (.node .leaf 3 () .leaf) 7 () (.node .leaf 8 () .leaf)) 9 () (.node (.node .leaf 10 () .leaf) 11 () .leaf)) 14 () (.node (.node (.node .leaf 17 () .leaf) 18 () (.node .leaf 19 () .leaf)) 20 () (.node (.node .leaf 21 () .leaf) 22 () .leaf))) 23 () (.node (.node (.node (.node .leaf 24 () .leaf) 25 () (.node .leaf 26 () .leaf)) 27 () (.node (.node .leaf 32 () .leaf) 33 () .leaf)) 34 () (.node (.node (.node .leaf 35 () .leaf) 36 () .leaf) 37 () (.node (.node .leaf 38 () .leaf) 39 () .leaf)))) 40 () (.node (.node (.node (.node (.node .leaf 41 () .leaf) 42 () (.node .leaf 43 () .leaf)) 44 () (.node (.node .leaf 45 () .leaf) 46 () .leaf)) 47 () (.node (.node (.node .leaf 48 () .leaf) 49 () .leaf) 50 () (.node (.node .leaf 51 () .leaf) 52 () .leaf))) 53 () (.node (.node (.node (.node .leaf 54 () .leaf) 55 () (.node .leaf 56 () .leaf)) 57 () (.node (.node .leaf 58 () .leaf) 59 () .leaf)) 60 () (.node (.node (.node .leaf 61 () .leaf) 63 () .leaf) 64 () (.node (.node .leaf 65 () .leaf) 66 () .leaf))))) 67 () (.node (.node (.node (.node (.node (.node .leaf 68 () .leaf) 69 () (.node .leaf 70 () .leaf)) 71 () (.node (.node .leaf 72 () .leaf) 73 () .leaf)) 74 () (.node (.node (.node .leaf 75 () .leaf) 76 () .leaf) 77 () (.node (.node .leaf 78 () .leaf) 79 () .leaf))) 80 () (.node (.node (.node (.node .leaf 81 () .leaf) 82 () (.node .leaf 83 () .leaf)) 84 () (.node (.node .leaf 85 () .leaf) 86 () .leaf)) 87 () (.node (.node (.node .leaf 88 () .leaf) 89 () .leaf) 90 () (.node (.node .leaf 91 () .leaf) 92 () .leaf)))) 93 () (.node (.node (.node (.node (.node .leaf 94 () .leaf) 95 () (.node .leaf 96 () .leaf)) 97 () (.node (.node .leaf 98 () .leaf) 99 () .leaf)) 100 () (.node (.node (.node .leaf 101 () .leaf) 102 () .leaf) 103 () (.node (.node .leaf 104 () .leaf) 105 () .leaf))) 106 () (.node (.node (.node (.node .leaf 107 () .leaf) 108 () (.node .leaf 109 () .leaf)) 110 () (.node (.node .leaf 111 () .leaf) 112 () .leaf)) 113 () (.node (.node (.node .leaf 114 () .leaf) 115 () .leaf) 116 () (.node (.node .leaf 117 () .leaf) 118 () .leaf)))))) 119 () (.node (.node (.node (.node (.node (.node (.node .leaf 120 () .leaf) 121 () (.node .leaf 122 () .leaf)) 123 () (.node (.node .leaf 124 () .leaf) 125 () .leaf)) 126 () (.node (.node (.node .leaf 127 () .leaf) 128 () (.node .leaf 129 () .leaf)) 130 () (.node (.node .leaf 131 () .leaf) 132 () .leaf))) 133 () (.node (.node (.node (.node .leaf 134 () .leaf) 135 () (.node .leaf 136 () .leaf)) 137 () (.node (.node .leaf 138 () .leaf) 139 () .leaf)) 140 () (.node (.node (.node .leaf 141 () .leaf) 142 () .leaf) 143 () (.node (.node .leaf 149 () .leaf) 150 () .leaf)))) 151 () (.node (.node (.node (.node (.node .leaf 152 () .leaf) 153 () (.node .leaf 154 () .leaf)) 155 () (.node (.node .leaf 156 () .leaf) 157 () .leaf)) 158 () (.node (.node (.node .leaf 159 () .leaf) 160 () .leaf) 161 () (.node (.node .leaf 162 () .leaf) 163 () .leaf))) 164 () (.node (.node (.node (.node .leaf 165 () .leaf) 166 () (.node .leaf 167 () .leaf)) 168 () (.node (.node .leaf 169 () .leaf) 170 () .leaf)) 171 () (.node (.node (.node .leaf 172 () .leaf) 173 () .leaf) 174 () (.node (.node .leaf 175 () .leaf) 176 () .leaf))))) 177 () (.node (.node (.node (.node (.node (.node .leaf 178 () .leaf) 179 () (.node .leaf 180 () .leaf)) 181 () (.node (.node .leaf 182 () .leaf) 183 () .leaf)) 184 () (.node (.node (.node .leaf 189 () .leaf) 190 () .leaf) 191 () (.node (.node .leaf 192 () .leaf) 193 () .leaf))) 194 () (.node (.node (.node (.node .leaf 195 () .leaf) 196 () (.node .leaf 197 () .leaf)) 198 () (.node (.node .leaf 199 () .leaf) 200 () .leaf)) 201 () (.node (.node (.node .leaf 202 () .leaf) 203 () .leaf) 204 () (.node (.node .leaf 205 () .leaf) 206 () .leaf)))) 207 () (.node (.node (.node (.node (.node .leaf 208 () .leaf) 209 () (.node .leaf 212 () .leaf)) 213 () (.node (.node .leaf 214 () .leaf) 215 () .leaf)) 216 () (.node (.node (.node .leaf 217 () .leaf) 224 () .leaf) 226 () (.node (.node .leaf 227 () .leaf) 228 () .leaf))) 229 () (.node (.node (.node (.node .leaf 238 () .leaf) 243 () (.node .leaf 244 () .leaf)) 245 () (.node (.node .leaf 246 () .leaf) 247 () .leaf)) 253 () (.node (.node (.node .leaf 254 () .leaf) 255 () .leaf) 256 () (.node (.node .leaf 257 () .leaf) 259 () .leaf)))))))
def BT.All {α : Type} (p : Nat × α → Prop) : BT α → Prop
  | .leaf => True
  | .node l k x r => l.All p ∧ p (k, x) ∧ r.All p
theorem lf {α : Type} {p : Nat × α → Prop} : BT.All p .leaf := trivial
theorem nd {α : Type} {p : Nat × α → Prop} {l r : BT α} {k : Nat} {x : α} (a : l.All p) (b : p (k, x)) (c : r.All p) : BT.All p (.node l k x r) := ⟨a, b, c⟩
theorem BT.all_mem {α : Type} {p : Nat × α → Prop} {y : Nat × α} : ∀ {b : BT α}, b.All p → y ∈ b.toL → p y
  | .leaf, _, h => by cases h
  | .node l k x r, ⟨h1, h2, h3⟩, h => by
    rw [BT.toL] at h
    rcases aVx.1 h with h | h
    · exact BT.all_mem h1 h
    · rcases aV7.1 h with rfl | h
      · exact h2
      · exact BT.all_mem h3 h
noncomputable def T : Tab := { prog := Tryz.prog, und := yR aSb, inf := yR aSc, fn := fun f => (yR fnB f).isSome, room := False }
theorem aSd : aSb.All fun x => Tryz.prog.underlying x.1 = some x.2 := (nd (nd (nd (nd (nd (nd lf Tryz.underlying1 lf) Tryz.underlying2 (nd lf Tryz.underlying3 lf)) Tryz.underlying4 (nd (nd lf Tryz.underlying5 lf) Tryz.underlying9 (nd lf Tryz.underlying22 lf))) Tryz.underlying24 (nd (nd (nd lf Tryz.underlying25 lf) Tryz.underlying27 (nd lf Tryz.underlying28 lf)) Tryz.underlying29 (nd (nd lf Tryz.underlying32 lf) Tryz.underlying35 lf))) Tryz.underlying37 (nd (nd (nd (nd lf Tryz.underlying44 lf) Tryz.underlying45 (nd lf Tryz.underlying48 lf)) Tryz.underlying50 (nd (nd lf Tryz.underlying52 lf) Tryz.underlying57 (nd lf Tryz.underlying58 lf))) Tryz.underlying62 (nd (nd (nd lf Tryz.underlying64 lf) Tryz.underlying65 (nd lf Tryz.underlying66 lf)) Tryz.underlying74 (nd (nd lf Tryz.underlying82 lf) Tryz.underlying93 lf)))) Tryz.underlying96 (nd (nd (nd (nd (nd lf Tryz.underlying99 lf) Tryz.underlying107 (nd lf Tryz.underlying128 lf)) Tryz.underlying130 (nd (nd lf Tryz.underlying136 lf) Tryz.underlying138 (nd lf Tryz.underlying140 lf))) Tryz.underlying146 (nd (nd (nd lf Tryz.underlying148 lf) Tryz.underlying149 (nd lf Tryz.underlying151 lf)) Tryz.underlying168 (nd (nd lf Tryz.underlying179 lf) Tryz.underlying183 lf))) Tryz.underlying196 (nd (nd (nd (nd lf Tryz.underlying200 lf) Tryz.underlying206 (nd lf Tryz.underlying208 lf)) Tryz.underlying209 (nd (nd lf Tryz.underlying210 lf) Tryz.underlying213 lf)) Tryz.underlying220 (nd (nd (nd lf Tryz.underlying243 lf) Tryz.underlying246 (nd lf Tryz.underlying263 lf)) Tryz.underlying274 (nd (nd lf Tryz.underlying275 lf) Tryz.underlying279 lf)))))
theorem aSe : aSc.All fun x => ∃ i v, Tryz.prog.info? x.1 = some i ∧ i.zero = some v ∧ v.cells = x.2.1.toArray ∧ i.size = x.2.1.length ∧ i.bytes = x.2.2 := (nd (nd (nd (nd (nd (nd lf ⟨Tryz.t1, _, by kernel_rfl, rfl, rfl, rfl, rfl⟩ lf) ⟨Tryz.t2, _, by kernel_rfl, rfl, rfl, rfl, rfl⟩ (nd lf ⟨Tryz.t3, _, by kernel_rfl, rfl, rfl, rfl, rfl⟩ lf)) ⟨Tryz.t4, _, by kernel_rfl, rfl, rfl, rfl, rfl⟩ (nd (nd lf ⟨Tryz.t5, _, by kernel_rfl, rfl, rfl, rfl, rfl⟩ lf) ⟨Tryz.t9, _, by kernel_rfl, rfl, rfl, rfl, rfl⟩ (nd lf ⟨Tryz.t22, _, by kernel_rfl, rfl, rfl, rfl, rfl⟩ lf))) ⟨Tryz.t24, _, by kernel_rfl, rfl, rfl, rfl, rfl⟩ (nd (nd (nd lf ⟨Tryz.t25, _, by kernel_rfl, rfl, rfl, rfl, rfl⟩ lf) ⟨Tryz.t27, _, by kernel_rfl, rfl, rfl, rfl, rfl⟩ (nd lf ⟨Tryz.t28, _, by kernel_rfl, rfl, rfl, rfl, rfl⟩ lf)) ⟨Tryz.t29, _, by kernel_rfl, rfl, rfl, rfl, rfl⟩ (nd (nd lf ⟨Tryz.t32, _, by kernel_rfl, rfl, rfl, rfl, rfl⟩ lf) ⟨Tryz.t35, _, by kernel_rfl, rfl, rfl, rfl, rfl⟩ lf))) ⟨Tryz.t37, _, by kernel_rfl, rfl, rfl, rfl, rfl⟩ (nd (nd (nd (nd lf ⟨Tryz.t44, _, by kernel_rfl, rfl, rfl, rfl, rfl⟩ lf) ⟨Tryz.t45, _, by kernel_rfl, rfl, rfl, rfl, rfl⟩ (nd lf ⟨Tryz.t48, _, by kernel_rfl, rfl, rfl, rfl, rfl⟩ lf)) ⟨Tryz.t50, _, by kernel_rfl, rfl, rfl, rfl, rfl⟩ (nd (nd lf ⟨Tryz.t52, _, by kernel_rfl, rfl, rfl, rfl, rfl⟩ lf) ⟨Tryz.t57, _, by kernel_rfl, rfl, rfl, rfl, rfl⟩ lf)) ⟨Tryz.t58, _, by kernel_rfl, rfl, rfl, rfl, rfl⟩ (nd (nd (nd lf ⟨Tryz.t62, _, by kernel_rfl, rfl, rfl, rfl, rfl⟩ lf) ⟨Tryz.t64, _, by kernel_rfl, rfl, rfl, rfl, rfl⟩ (nd lf ⟨Tryz.t65, _, by kernel_rfl, rfl, rfl, rfl, rfl⟩ lf)) ⟨Tryz.t66, _, by kernel_rfl, rfl, rfl, rfl, rfl⟩ (nd (nd lf ⟨Tryz.t74, _, by kernel_rfl, rfl, rfl, rfl, rfl⟩ lf) ⟨Tryz.t82, _, by kernel_rfl, rfl, rfl, rfl, rfl⟩ lf)))) ⟨Tryz.t93, _, by kernel_rfl, rfl, rfl, rfl, rfl⟩ (nd (nd (nd (nd (nd lf ⟨Tryz.t96, _, by kernel_rfl, rfl, rfl, rfl, rfl⟩ lf) ⟨Tryz.t99, _, by kernel_rfl, rfl, rfl, rfl, rfl⟩ (nd lf ⟨Tryz.t107, _, by kernel_rfl, rfl, rfl, rfl, rfl⟩ lf)) ⟨Tryz.t128, _, by kernel_rfl, rfl, rfl, rfl, rfl⟩ (nd (nd lf ⟨Tryz.t130, _, by kernel_rfl, rfl, rfl, rfl, rfl⟩ lf) ⟨Tryz.t136, _, by kernel_rfl, rfl, rfl, rfl, rfl⟩ (nd lf ⟨Tryz.t138, _, by kernel_rfl, rfl, rfl, rfl, rfl⟩ lf))) ⟨Tryz.t140, _, by kernel_rfl, rfl, rfl, rfl, rfl⟩ (nd (nd (nd lf ⟨Tryz.t146, _, by kernel_rfl, rfl, rfl, rfl, rfl⟩ lf) ⟨Tryz.t148, _, by kernel_rfl, rfl, rfl, rfl, rfl⟩ (nd lf ⟨Tryz.t149, _, by kernel_rfl, rfl, rfl, rfl, rfl⟩ lf)) ⟨Tryz.t151, _, by kernel_rfl, rfl, rfl, rfl, rfl⟩ (nd (nd lf ⟨Tryz.t168, _, by kernel_rfl, rfl, rfl, rfl, rfl⟩ lf) ⟨Tryz.t183, _, by kernel_rfl, rfl, rfl, rfl, rfl⟩ lf))) ⟨Tryz.t196, _, by kernel_rfl, rfl, rfl, rfl, rfl⟩ (nd (nd (nd (nd lf ⟨Tryz.t200, _, by kernel_rfl, rfl, rfl, rfl, rfl⟩ lf) ⟨Tryz.t206, _, by kernel_rfl, rfl, rfl, rfl, rfl⟩ (nd lf ⟨Tryz.t208, _, by kernel_rfl, rfl, rfl, rfl, rfl⟩ lf)) ⟨Tryz.t209, _, by kernel_rfl, rfl, rfl, rfl, rfl⟩ (nd (nd lf ⟨Tryz.t210, _, by kernel_rfl, rfl, rfl, rfl, rfl⟩ lf) ⟨Tryz.t213, _, by kernel_rfl, rfl, rfl, rfl, rfl⟩ lf)) ⟨Tryz.t220, _, by kernel_rfl, rfl, rfl, rfl, rfl⟩ (nd (nd (nd lf ⟨Tryz.t240, _, by kernel_rfl, rfl, rfl, rfl, rfl⟩ lf) ⟨Tryz.t243, _, by kernel_rfl, rfl, rfl, rfl, rfl⟩ (nd lf ⟨Tryz.t246, _, by kernel_rfl, rfl, rfl, rfl, rfl⟩ lf)) ⟨Tryz.t263, _, by kernel_rfl, rfl, rfl, rfl, rfl⟩ (nd (nd lf ⟨Tryz.t274, _, by kernel_rfl, rfl, rfl, rfl, rfl⟩ lf) ⟨Tryz.t279, _, by kernel_rfl, rfl, rfl, rfl, rfl⟩ lf)))))
theorem aT2 : fnB.All fun x => ∀ args w, (callFunc x.1 args).run Tryz.prog w = .ok (.enter x.1 args) w := (nd (nd (nd (nd (nd (nd (nd (nd lf Tryz.call3 lf) Tryz.call7 (nd lf Tryz.call8 lf)) Tryz.call9 (nd (nd lf Tryz.call10 lf) Tryz.call11 lf)) Tryz.call14 (nd (nd (nd lf Tryz.call17 lf) Tryz.call18 (nd lf Tryz.call19 lf)) Tryz.call20 (nd (nd lf Tryz.call21 lf) Tryz.call22 lf))) Tryz.call23 (nd (nd (nd (nd lf Tryz.call24 lf) Tryz.call25 (nd lf Tryz.call26 lf)) Tryz.call27 (nd (nd lf Tryz.call32 lf) Tryz.call33 lf)) Tryz.call34 (nd (nd (nd lf Tryz.call35 lf) Tryz.call36 lf) Tryz.call37 (nd (nd lf Tryz.call38 lf) Tryz.call39 lf)))) Tryz.call40 (nd (nd (nd (nd (nd lf Tryz.call41 lf) Tryz.call42 (nd lf Tryz.call43 lf)) Tryz.call44 (nd (nd lf Tryz.call45 lf) Tryz.call46 lf)) Tryz.call47 (nd (nd (nd lf Tryz.call48 lf) Tryz.call49 lf) Tryz.call50 (nd (nd lf Tryz.call51 lf) Tryz.call52 lf))) Tryz.call53 (nd (nd (nd (nd lf Tryz.call54 lf) Tryz.call55 (nd lf Tryz.call56 lf)) Tryz.call57 (nd (nd lf Tryz.call58 lf) Tryz.call59 lf)) Tryz.call60 (nd (nd (nd lf Tryz.call61 lf) Tryz.call63 lf) Tryz.call64 (nd (nd lf Tryz.call65 lf) Tryz.call66 lf))))) Tryz.call67 (nd (nd (nd (nd (nd (nd lf Tryz.call68 lf) Tryz.call69 (nd lf Tryz.call70 lf)) Tryz.call71 (nd (nd lf Tryz.call72 lf) Tryz.call73 lf)) Tryz.call74 (nd (nd (nd lf Tryz.call75 lf) Tryz.call76 lf) Tryz.call77 (nd (nd lf Tryz.call78 lf) Tryz.call79 lf))) Tryz.call80 (nd (nd (nd (nd lf Tryz.call81 lf) Tryz.call82 (nd lf Tryz.call83 lf)) Tryz.call84 (nd (nd lf Tryz.call85 lf) Tryz.call86 lf)) Tryz.call87 (nd (nd (nd lf Tryz.call88 lf) Tryz.call89 lf) Tryz.call90 (nd (nd lf Tryz.call91 lf) Tryz.call92 lf)))) Tryz.call93 (nd (nd (nd (nd (nd lf Tryz.call94 lf) Tryz.call95 (nd lf Tryz.call96 lf)) Tryz.call97 (nd (nd lf Tryz.call98 lf) Tryz.call99 lf)) Tryz.call100 (nd (nd (nd lf Tryz.call101 lf) Tryz.call102 lf) Tryz.call103 (nd (nd lf Tryz.call104 lf) Tryz.call105 lf))) Tryz.call106 (nd (nd (nd (nd lf Tryz.call107 lf) Tryz.call108 (nd lf Tryz.call109 lf)) Tryz.call110 (nd (nd lf Tryz.call111 lf) Tryz.call112 lf)) Tryz.call113 (nd (nd (nd lf Tryz.call114 lf) Tryz.call115 lf) Tryz.call116 (nd (nd lf Tryz.call117 lf) Tryz.call118 lf)))))) Tryz.call119 (nd (nd (nd (nd (nd (nd (nd lf Tryz.call120 lf) Tryz.call121 (nd lf Tryz.call122 lf)) Tryz.call123 (nd (nd lf Tryz.call124 lf) Tryz.call125 lf)) Tryz.call126 (nd (nd (nd lf Tryz.call127 lf) Tryz.call128 (nd lf Tryz.call129 lf)) Tryz.call130 (nd (nd lf Tryz.call131 lf) Tryz.call132 lf))) Tryz.call133 (nd (nd (nd (nd lf Tryz.call134 lf) Tryz.call135 (nd lf Tryz.call136 lf)) Tryz.call137 (nd (nd lf Tryz.call138 lf) Tryz.call139 lf)) Tryz.call140 (nd (nd (nd lf Tryz.call141 lf) Tryz.call142 lf) Tryz.call143 (nd (nd lf Tryz.call149 lf) Tryz.call150 lf)))) Tryz.call151 (nd (nd (nd (nd (nd lf Tryz.call152 lf) Tryz.call153 (nd lf Tryz.call154 lf)) Tryz.call155 (nd (nd lf Tryz.call156 lf) Tryz.call157 lf)) Tryz.call158 (nd (nd (nd lf Tryz.call159 lf) Tryz.call160 lf) Tryz.call161 (nd (nd lf Tryz.call162 lf) Tryz.call163 lf))) Tryz.call164 (nd (nd (nd (nd lf Tryz.call165 lf) Tryz.call166 (nd lf Tryz.call167 lf)) Tryz.call168 (nd (nd lf Tryz.call169 lf) Tryz.call170 lf)) Tryz.call171 (nd (nd (nd lf Tryz.call172 lf) Tryz.call173 lf) Tryz.call174 (nd (nd lf Tryz.call175 lf) Tryz.call176 lf))))) Tryz.call177 (nd (nd (nd (nd (nd (nd lf Tryz.call178 lf) Tryz.call179 (nd lf Tryz.call180 lf)) Tryz.call181 (nd (nd lf Tryz.call182 lf) Tryz.call183 lf)) Tryz.call184 (nd (nd (nd lf Tryz.call189 lf) Tryz.call190 lf) Tryz.call191 (nd (nd lf Tryz.call192 lf) Tryz.call193 lf))) Tryz.call194 (nd (nd (nd (nd lf Tryz.call195 lf) Tryz.call196 (nd lf Tryz.call197 lf)) Tryz.call198 (nd (nd lf Tryz.call199 lf) Tryz.call200 lf)) Tryz.call201 (nd (nd (nd lf Tryz.call202 lf) Tryz.call203 lf) Tryz.call204 (nd (nd lf Tryz.call205 lf) Tryz.call206 lf)))) Tryz.call207 (nd (nd (nd (nd (nd lf Tryz.call208 lf) Tryz.call209 (nd lf Tryz.call212 lf)) Tryz.call213 (nd (nd lf Tryz.call214 lf) Tryz.call215 lf)) Tryz.call216 (nd (nd (nd lf Tryz.call217 lf) Tryz.call224 lf) Tryz.call226 (nd (nd lf Tryz.call227 lf) Tryz.call228 lf))) Tryz.call229 (nd (nd (nd (nd lf Tryz.call238 lf) Tryz.call243 (nd lf Tryz.call244 lf)) Tryz.call245 (nd (nd lf Tryz.call246 lf) Tryz.call247 lf)) Tryz.call253 (nd (nd (nd lf Tryz.call254 lf) Tryz.call255 lf) Tryz.call256 (nd (nd lf Tryz.call257 lf) Tryz.call259 lf)))))))
theorem aN4 : Tryz.prog.follows .mixedOrders = true := by kernel_rfl
theorem ok : T.Ok where
  und t d h := BT.all_mem (y := (t, d)) aSd (mY h)
  inf t z n h := BT.all_mem (y := (t, (z, n))) aSe (mY h)
  fn f h args w := by
    obtain ⟨x, hx⟩ := Option.isSome_iff_exists.1 (show (yR fnB f).isSome = true from h)
    exact BT.all_mem aT2 (mY hx) args w
  mixed := aN4
abbrev F.q3 : Nat := 3
theorem D.q3 : T.prog.funcs[F.q3]? = some Tryz.f3 := Tryz.func3
abbrev F.q7 : Nat := 7
theorem D.q7 : T.prog.funcs[F.q7]? = some Tryz.f7 := Tryz.func7
abbrev F.q8 : Nat := 8
theorem D.q8 : T.prog.funcs[F.q8]? = some Tryz.f8 := Tryz.func8
abbrev F.q9 : Nat := 9
theorem D.q9 : T.prog.funcs[F.q9]? = some Tryz.f9 := Tryz.func9
abbrev F.q10 : Nat := 10
theorem D.q10 : T.prog.funcs[F.q10]? = some Tryz.f10 := Tryz.func10
abbrev F.q11 : Nat := 11
theorem D.q11 : T.prog.funcs[F.q11]? = some Tryz.f11 := Tryz.func11
abbrev F.q14 : Nat := 14
theorem D.q14 : T.prog.funcs[F.q14]? = some Tryz.f14 := Tryz.func14
abbrev F.q17 : Nat := 17
theorem D.q17 : T.prog.funcs[F.q17]? = some Tryz.f17 := Tryz.func17
abbrev F.q18 : Nat := 18
abbrev F.q19 : Nat := 19
theorem D.q19 : T.prog.funcs[F.q19]? = some Tryz.f19 := Tryz.func19
abbrev F.q20 : Nat := 20
theorem D.q20 : T.prog.funcs[F.q20]? = some Tryz.f20 := Tryz.func20
abbrev F.q21 : Nat := 21
theorem D.q21 : T.prog.funcs[F.q21]? = some Tryz.f21 := Tryz.func21
abbrev F.q22 : Nat := 22
theorem D.q22 : T.prog.funcs[F.q22]? = some Tryz.f22 := Tryz.func22
abbrev F.q23 : Nat := 23
theorem D.q23 : T.prog.funcs[F.q23]? = some Tryz.f23 := Tryz.func23
abbrev F.q24 : Nat := 24
theorem D.q24 : T.prog.funcs[F.q24]? = some Tryz.f24 := Tryz.func24
abbrev F.q25 : Nat := 25
theorem D.q25 : T.prog.funcs[F.q25]? = some Tryz.f25 := Tryz.func25
abbrev F.q26 : Nat := 26
theorem D.q26 : T.prog.funcs[F.q26]? = some Tryz.f26 := Tryz.func26
abbrev F.q27 : Nat := 27
theorem D.q27 : T.prog.funcs[F.q27]? = some Tryz.f27 := Tryz.func27
abbrev F.q32 : Nat := 32
theorem D.q32 : T.prog.funcs[F.q32]? = some Tryz.f32 := Tryz.func32
abbrev F.q33 : Nat := 33
theorem D.q33 : T.prog.funcs[F.q33]? = some Tryz.f33 := Tryz.func33
abbrev F.q34 : Nat := 34
abbrev F.q35 : Nat := 35
theorem D.q35 : T.prog.funcs[F.q35]? = some Tryz.f35 := Tryz.func35
abbrev F.q36 : Nat := 36
theorem D.q36 : T.prog.funcs[F.q36]? = some Tryz.f36 := Tryz.func36
abbrev F.q37 : Nat := 37
theorem D.q37 : T.prog.funcs[F.q37]? = some Tryz.f37 := Tryz.func37
abbrev F.q38 : Nat := 38
theorem D.q38 : T.prog.funcs[F.q38]? = some Tryz.f38 := Tryz.func38
abbrev F.q39 : Nat := 39
theorem D.q39 : T.prog.funcs[F.q39]? = some Tryz.f39 := Tryz.func39
abbrev F.q40 : Nat := 40
theorem D.q40 : T.prog.funcs[F.q40]? = some Tryz.f40 := Tryz.func40
abbrev F.q41 : Nat := 41
theorem D.q41 : T.prog.funcs[F.q41]? = some Tryz.f41 := Tryz.func41
abbrev F.q42 : Nat := 42
theorem D.q42 : T.prog.funcs[F.q42]? = some Tryz.f42 := Tryz.func42
abbrev F.q43 : Nat := 43
theorem D.q43 : T.prog.funcs[F.q43]? = some Tryz.f43 := Tryz.func43
abbrev F.q44 : Nat := 44
theorem D.q44 : T.prog.funcs[F.q44]? = some Tryz.f44 := Tryz.func44
abbrev F.q45 : Nat := 45
theorem D.q45 : T.prog.funcs[F.q45]? = some Tryz.f45 := Tryz.func45
abbrev F.q46 : Nat := 46
theorem D.q46 : T.prog.funcs[F.q46]? = some Tryz.f46 := Tryz.func46
abbrev F.q47 : Nat := 47
theorem D.q47 : T.prog.funcs[F.q47]? = some Tryz.f47 := Tryz.func47
abbrev F.q48 : Nat := 48
theorem D.q48 : T.prog.funcs[F.q48]? = some Tryz.f48 := Tryz.func48
abbrev F.q49 : Nat := 49
theorem D.q49 : T.prog.funcs[F.q49]? = some Tryz.f49 := Tryz.func49
abbrev F.q50 : Nat := 50
theorem D.q50 : T.prog.funcs[F.q50]? = some Tryz.f50 := Tryz.func50
abbrev F.q51 : Nat := 51
abbrev F.q52 : Nat := 52
theorem D.q52 : T.prog.funcs[F.q52]? = some Tryz.f52 := Tryz.func52
abbrev F.q53 : Nat := 53
theorem D.q53 : T.prog.funcs[F.q53]? = some Tryz.f53 := Tryz.func53
abbrev F.q54 : Nat := 54
theorem D.q54 : T.prog.funcs[F.q54]? = some Tryz.f54 := Tryz.func54
abbrev F.q55 : Nat := 55
theorem D.q55 : T.prog.funcs[F.q55]? = some Tryz.f55 := Tryz.func55
abbrev F.q56 : Nat := 56
theorem D.q56 : T.prog.funcs[F.q56]? = some Tryz.f56 := Tryz.func56
abbrev F.q57 : Nat := 57
theorem D.q57 : T.prog.funcs[F.q57]? = some Tryz.f57 := Tryz.func57
abbrev F.q58 : Nat := 58
theorem D.q58 : T.prog.funcs[F.q58]? = some Tryz.f58 := Tryz.func58
abbrev F.q59 : Nat := 59
theorem D.q59 : T.prog.funcs[F.q59]? = some Tryz.f59 := Tryz.func59
abbrev F.q60 : Nat := 60
theorem D.q60 : T.prog.funcs[F.q60]? = some Tryz.f60 := Tryz.func60
abbrev F.q61 : Nat := 61
theorem D.q61 : T.prog.funcs[F.q61]? = some Tryz.f61 := Tryz.func61
abbrev F.q63 : Nat := 63
theorem D.q63 : T.prog.funcs[F.q63]? = some Tryz.f63 := Tryz.func63
abbrev F.q64 : Nat := 64
theorem D.q64 : T.prog.funcs[F.q64]? = some Tryz.f64 := Tryz.func64
abbrev F.q65 : Nat := 65
theorem D.q65 : T.prog.funcs[F.q65]? = some Tryz.f65 := Tryz.func65
abbrev F.q66 : Nat := 66
theorem D.q66 : T.prog.funcs[F.q66]? = some Tryz.f66 := Tryz.func66
abbrev F.q67 : Nat := 67
theorem D.q67 : T.prog.funcs[F.q67]? = some Tryz.f67 := Tryz.func67
abbrev F.q68 : Nat := 68
theorem D.q68 : T.prog.funcs[F.q68]? = some Tryz.f68 := Tryz.func68
abbrev F.q69 : Nat := 69
theorem D.q69 : T.prog.funcs[F.q69]? = some Tryz.f69 := Tryz.func69
abbrev F.q70 : Nat := 70
theorem D.q70 : T.prog.funcs[F.q70]? = some Tryz.f70 := Tryz.func70
abbrev F.q71 : Nat := 71
theorem D.q71 : T.prog.funcs[F.q71]? = some Tryz.f71 := Tryz.func71
abbrev F.q72 : Nat := 72
theorem D.q72 : T.prog.funcs[F.q72]? = some Tryz.f72 := Tryz.func72
abbrev F.q73 : Nat := 73
theorem D.q73 : T.prog.funcs[F.q73]? = some Tryz.f73 := Tryz.func73
abbrev F.q74 : Nat := 74
theorem D.q74 : T.prog.funcs[F.q74]? = some Tryz.f74 := Tryz.func74
abbrev F.q75 : Nat := 75
theorem D.q75 : T.prog.funcs[F.q75]? = some Tryz.f75 := Tryz.func75
abbrev F.q76 : Nat := 76
theorem D.q76 : T.prog.funcs[F.q76]? = some Tryz.f76 := Tryz.func76
abbrev F.q77 : Nat := 77
theorem D.q77 : T.prog.funcs[F.q77]? = some Tryz.f77 := Tryz.func77
abbrev F.q78 : Nat := 78
theorem D.q78 : T.prog.funcs[F.q78]? = some Tryz.f78 := Tryz.func78
abbrev F.q79 : Nat := 79
theorem D.q79 : T.prog.funcs[F.q79]? = some Tryz.f79 := Tryz.func79
abbrev F.q80 : Nat := 80
theorem D.q80 : T.prog.funcs[F.q80]? = some Tryz.f80 := Tryz.func80
abbrev F.q81 : Nat := 81
theorem D.q81 : T.prog.funcs[F.q81]? = some Tryz.f81 := Tryz.func81
abbrev F.q82 : Nat := 82
theorem D.q82 : T.prog.funcs[F.q82]? = some Tryz.f82 := Tryz.func82
abbrev F.q83 : Nat := 83
theorem D.q83 : T.prog.funcs[F.q83]? = some Tryz.f83 := Tryz.func83
abbrev F.q84 : Nat := 84
theorem D.q84 : T.prog.funcs[F.q84]? = some Tryz.f84 := Tryz.func84
abbrev F.q85 : Nat := 85
theorem D.q85 : T.prog.funcs[F.q85]? = some Tryz.f85 := Tryz.func85
abbrev F.q86 : Nat := 86
theorem D.q86 : T.prog.funcs[F.q86]? = some Tryz.f86 := Tryz.func86
abbrev F.q87 : Nat := 87
theorem D.q87 : T.prog.funcs[F.q87]? = some Tryz.f87 := Tryz.func87
abbrev F.q88 : Nat := 88
theorem D.q88 : T.prog.funcs[F.q88]? = some Tryz.f88 := Tryz.func88
abbrev F.q89 : Nat := 89
theorem D.q89 : T.prog.funcs[F.q89]? = some Tryz.f89 := Tryz.func89
abbrev F.q90 : Nat := 90
abbrev F.q91 : Nat := 91
theorem D.q91 : T.prog.funcs[F.q91]? = some Tryz.f91 := Tryz.func91
abbrev F.q92 : Nat := 92
theorem D.q92 : T.prog.funcs[F.q92]? = some Tryz.f92 := Tryz.func92
abbrev F.q93 : Nat := 93
theorem D.q93 : T.prog.funcs[F.q93]? = some Tryz.f93 := Tryz.func93
abbrev F.q94 : Nat := 94
theorem D.q94 : T.prog.funcs[F.q94]? = some Tryz.f94 := Tryz.func94
abbrev F.q95 : Nat := 95
theorem D.q95 : T.prog.funcs[F.q95]? = some Tryz.f95 := Tryz.func95
abbrev F.q96 : Nat := 96
theorem D.q96 : T.prog.funcs[F.q96]? = some Tryz.f96 := Tryz.func96
abbrev F.q97 : Nat := 97
theorem D.q97 : T.prog.funcs[F.q97]? = some Tryz.f97 := Tryz.func97
abbrev F.q98 : Nat := 98
theorem D.q98 : T.prog.funcs[F.q98]? = some Tryz.f98 := Tryz.func98
abbrev F.q99 : Nat := 99
theorem D.q99 : T.prog.funcs[F.q99]? = some Tryz.f99 := Tryz.func99
abbrev F.q100 : Nat := 100
theorem D.q100 : T.prog.funcs[F.q100]? = some Tryz.f100 := Tryz.func100
abbrev F.q101 : Nat := 101
theorem D.q101 : T.prog.funcs[F.q101]? = some Tryz.f101 := Tryz.func101
abbrev F.q102 : Nat := 102
theorem D.q102 : T.prog.funcs[F.q102]? = some Tryz.f102 := Tryz.func102
abbrev F.q103 : Nat := 103
theorem D.q103 : T.prog.funcs[F.q103]? = some Tryz.f103 := Tryz.func103
abbrev F.q104 : Nat := 104
theorem D.q104 : T.prog.funcs[F.q104]? = some Tryz.f104 := Tryz.func104
abbrev F.q105 : Nat := 105
theorem D.q105 : T.prog.funcs[F.q105]? = some Tryz.f105 := Tryz.func105
abbrev F.q106 : Nat := 106
theorem D.q106 : T.prog.funcs[F.q106]? = some Tryz.f106 := Tryz.func106
abbrev F.q107 : Nat := 107
theorem D.q107 : T.prog.funcs[F.q107]? = some Tryz.f107 := Tryz.func107
abbrev F.q108 : Nat := 108
theorem D.q108 : T.prog.funcs[F.q108]? = some Tryz.f108 := Tryz.func108
abbrev F.q109 : Nat := 109
theorem D.q109 : T.prog.funcs[F.q109]? = some Tryz.f109 := Tryz.func109
abbrev F.q110 : Nat := 110
theorem D.q110 : T.prog.funcs[F.q110]? = some Tryz.f110 := Tryz.func110
abbrev F.q111 : Nat := 111
theorem D.q111 : T.prog.funcs[F.q111]? = some Tryz.f111 := Tryz.func111
abbrev F.q112 : Nat := 112
theorem D.q112 : T.prog.funcs[F.q112]? = some Tryz.f112 := Tryz.func112
abbrev F.q113 : Nat := 113
theorem D.q113 : T.prog.funcs[F.q113]? = some Tryz.f113 := Tryz.func113
abbrev F.q114 : Nat := 114
theorem D.q114 : T.prog.funcs[F.q114]? = some Tryz.f114 := Tryz.func114
abbrev F.q115 : Nat := 115
theorem D.q115 : T.prog.funcs[F.q115]? = some Tryz.f115 := Tryz.func115
abbrev F.q116 : Nat := 116
theorem D.q116 : T.prog.funcs[F.q116]? = some Tryz.f116 := Tryz.func116
abbrev F.q117 : Nat := 117
theorem D.q117 : T.prog.funcs[F.q117]? = some Tryz.f117 := Tryz.func117
abbrev F.q118 : Nat := 118
theorem D.q118 : T.prog.funcs[F.q118]? = some Tryz.f118 := Tryz.func118
abbrev F.q119 : Nat := 119
theorem D.q119 : T.prog.funcs[F.q119]? = some Tryz.f119 := Tryz.func119
abbrev F.q120 : Nat := 120
theorem D.q120 : T.prog.funcs[F.q120]? = some Tryz.f120 := Tryz.func120
abbrev F.q121 : Nat := 121
theorem D.q121 : T.prog.funcs[F.q121]? = some Tryz.f121 := Tryz.func121
abbrev F.q122 : Nat := 122
theorem D.q122 : T.prog.funcs[F.q122]? = some Tryz.f122 := Tryz.func122
abbrev F.q123 : Nat := 123
theorem D.q123 : T.prog.funcs[F.q123]? = some Tryz.f123 := Tryz.func123
abbrev F.q124 : Nat := 124
theorem D.q124 : T.prog.funcs[F.q124]? = some Tryz.f124 := Tryz.func124
abbrev F.q125 : Nat := 125
theorem D.q125 : T.prog.funcs[F.q125]? = some Tryz.f125 := Tryz.func125
abbrev F.q126 : Nat := 126
theorem D.q126 : T.prog.funcs[F.q126]? = some Tryz.f126 := Tryz.func126
abbrev F.q127 : Nat := 127
theorem D.q127 : T.prog.funcs[F.q127]? = some Tryz.f127 := Tryz.func127
abbrev F.q128 : Nat := 128
theorem D.q128 : T.prog.funcs[F.q128]? = some Tryz.f128 := Tryz.func128
abbrev F.q129 : Nat := 129
theorem D.q129 : T.prog.funcs[F.q129]? = some Tryz.f129 := Tryz.func129
abbrev F.q130 : Nat := 130
theorem D.q130 : T.prog.funcs[F.q130]? = some Tryz.f130 := Tryz.func130
abbrev F.q131 : Nat := 131
theorem D.q131 : T.prog.funcs[F.q131]? = some Tryz.f131 := Tryz.func131
abbrev F.q132 : Nat := 132
theorem D.q132 : T.prog.funcs[F.q132]? = some Tryz.f132 := Tryz.func132
abbrev F.q133 : Nat := 133
theorem D.q133 : T.prog.funcs[F.q133]? = some Tryz.f133 := Tryz.func133
abbrev F.q134 : Nat := 134
theorem D.q134 : T.prog.funcs[F.q134]? = some Tryz.f134 := Tryz.func134
abbrev F.q135 : Nat := 135
theorem D.q135 : T.prog.funcs[F.q135]? = some Tryz.f135 := Tryz.func135
abbrev F.q136 : Nat := 136
theorem D.q136 : T.prog.funcs[F.q136]? = some Tryz.f136 := Tryz.func136
abbrev F.q137 : Nat := 137
theorem D.q137 : T.prog.funcs[F.q137]? = some Tryz.f137 := Tryz.func137
abbrev F.q138 : Nat := 138
theorem D.q138 : T.prog.funcs[F.q138]? = some Tryz.f138 := Tryz.func138
abbrev F.q139 : Nat := 139
theorem D.q139 : T.prog.funcs[F.q139]? = some Tryz.f139 := Tryz.func139
abbrev F.q140 : Nat := 140
theorem D.q140 : T.prog.funcs[F.q140]? = some Tryz.f140 := Tryz.func140
abbrev F.q141 : Nat := 141
theorem D.q141 : T.prog.funcs[F.q141]? = some Tryz.f141 := Tryz.func141
abbrev F.q142 : Nat := 142
theorem D.q142 : T.prog.funcs[F.q142]? = some Tryz.f142 := Tryz.func142
abbrev F.q143 : Nat := 143
theorem D.q143 : T.prog.funcs[F.q143]? = some Tryz.f143 := Tryz.func143
abbrev F.q149 : Nat := 149
theorem D.q149 : T.prog.funcs[F.q149]? = some Tryz.f149 := Tryz.func149
abbrev F.q150 : Nat := 150
theorem D.q150 : T.prog.funcs[F.q150]? = some Tryz.f150 := Tryz.func150
abbrev F.q151 : Nat := 151
theorem D.q151 : T.prog.funcs[F.q151]? = some Tryz.f151 := Tryz.func151
abbrev F.q152 : Nat := 152
theorem D.q152 : T.prog.funcs[F.q152]? = some Tryz.f152 := Tryz.func152
abbrev F.q153 : Nat := 153
theorem D.q153 : T.prog.funcs[F.q153]? = some Tryz.f153 := Tryz.func153
abbrev F.q154 : Nat := 154
theorem D.q154 : T.prog.funcs[F.q154]? = some Tryz.f154 := Tryz.func154
abbrev F.q155 : Nat := 155
theorem D.q155 : T.prog.funcs[F.q155]? = some Tryz.f155 := Tryz.func155
abbrev F.q156 : Nat := 156
theorem D.q156 : T.prog.funcs[F.q156]? = some Tryz.f156 := Tryz.func156
abbrev F.q157 : Nat := 157
abbrev F.q158 : Nat := 158
theorem D.q158 : T.prog.funcs[F.q158]? = some Tryz.f158 := Tryz.func158
abbrev F.q159 : Nat := 159
theorem D.q159 : T.prog.funcs[F.q159]? = some Tryz.f159 := Tryz.func159
abbrev F.q160 : Nat := 160
theorem D.q160 : T.prog.funcs[F.q160]? = some Tryz.f160 := Tryz.func160
abbrev F.q161 : Nat := 161
theorem D.q161 : T.prog.funcs[F.q161]? = some Tryz.f161 := Tryz.func161
abbrev F.q162 : Nat := 162
theorem D.q162 : T.prog.funcs[F.q162]? = some Tryz.f162 := Tryz.func162
abbrev F.q163 : Nat := 163
theorem D.q163 : T.prog.funcs[F.q163]? = some Tryz.f163 := Tryz.func163
abbrev F.q164 : Nat := 164
theorem D.q164 : T.prog.funcs[F.q164]? = some Tryz.f164 := Tryz.func164
abbrev F.q165 : Nat := 165
theorem D.q165 : T.prog.funcs[F.q165]? = some Tryz.f165 := Tryz.func165
abbrev F.q166 : Nat := 166
theorem D.q166 : T.prog.funcs[F.q166]? = some Tryz.f166 := Tryz.func166
abbrev F.q167 : Nat := 167
theorem D.q167 : T.prog.funcs[F.q167]? = some Tryz.f167 := Tryz.func167
abbrev F.q168 : Nat := 168
theorem D.q168 : T.prog.funcs[F.q168]? = some Tryz.f168 := Tryz.func168
abbrev F.q169 : Nat := 169
theorem D.q169 : T.prog.funcs[F.q169]? = some Tryz.f169 := Tryz.func169
abbrev F.q170 : Nat := 170
theorem D.q170 : T.prog.funcs[F.q170]? = some Tryz.f170 := Tryz.func170
abbrev F.q171 : Nat := 171
theorem D.q171 : T.prog.funcs[F.q171]? = some Tryz.f171 := Tryz.func171
abbrev F.q172 : Nat := 172
theorem D.q172 : T.prog.funcs[F.q172]? = some Tryz.f172 := Tryz.func172
abbrev F.q173 : Nat := 173
theorem D.q173 : T.prog.funcs[F.q173]? = some Tryz.f173 := Tryz.func173
abbrev F.q174 : Nat := 174
theorem D.q174 : T.prog.funcs[F.q174]? = some Tryz.f174 := Tryz.func174
abbrev F.q175 : Nat := 175
theorem D.q175 : T.prog.funcs[F.q175]? = some Tryz.f175 := Tryz.func175
abbrev F.q176 : Nat := 176
theorem D.q176 : T.prog.funcs[F.q176]? = some Tryz.f176 := Tryz.func176
abbrev F.q177 : Nat := 177
abbrev F.q178 : Nat := 178
abbrev F.q179 : Nat := 179
theorem D.q179 : T.prog.funcs[F.q179]? = some Tryz.f179 := Tryz.func179
abbrev F.q180 : Nat := 180
theorem D.q180 : T.prog.funcs[F.q180]? = some Tryz.f180 := Tryz.func180
abbrev F.q181 : Nat := 181
theorem D.q181 : T.prog.funcs[F.q181]? = some Tryz.f181 := Tryz.func181
abbrev F.q182 : Nat := 182
theorem D.q182 : T.prog.funcs[F.q182]? = some Tryz.f182 := Tryz.func182
abbrev F.q183 : Nat := 183
theorem D.q183 : T.prog.funcs[F.q183]? = some Tryz.f183 := Tryz.func183
abbrev F.q184 : Nat := 184
theorem D.q184 : T.prog.funcs[F.q184]? = some Tryz.f184 := Tryz.func184
abbrev F.q189 : Nat := 189
theorem D.q189 : T.prog.funcs[F.q189]? = some Tryz.f189 := Tryz.func189
abbrev F.q190 : Nat := 190
theorem D.q190 : T.prog.funcs[F.q190]? = some Tryz.f190 := Tryz.func190
abbrev F.q191 : Nat := 191
theorem D.q191 : T.prog.funcs[F.q191]? = some Tryz.f191 := Tryz.func191
abbrev F.q192 : Nat := 192
theorem D.q192 : T.prog.funcs[F.q192]? = some Tryz.f192 := Tryz.func192
abbrev F.q193 : Nat := 193
abbrev F.q194 : Nat := 194
abbrev F.q195 : Nat := 195
theorem D.q195 : T.prog.funcs[F.q195]? = some Tryz.f195 := Tryz.func195
abbrev F.q196 : Nat := 196
theorem D.q196 : T.prog.funcs[F.q196]? = some Tryz.f196 := Tryz.func196
abbrev F.q197 : Nat := 197
theorem D.q197 : T.prog.funcs[F.q197]? = some Tryz.f197 := Tryz.func197
abbrev F.q198 : Nat := 198
theorem D.q198 : T.prog.funcs[F.q198]? = some Tryz.f198 := Tryz.func198
abbrev F.q199 : Nat := 199
theorem D.q199 : T.prog.funcs[F.q199]? = some Tryz.f199 := Tryz.func199
abbrev F.q200 : Nat := 200
theorem D.q200 : T.prog.funcs[F.q200]? = some Tryz.f200 := Tryz.func200
abbrev F.q201 : Nat := 201
theorem D.q201 : T.prog.funcs[F.q201]? = some Tryz.f201 := Tryz.func201
abbrev F.q202 : Nat := 202
theorem D.q202 : T.prog.funcs[F.q202]? = some Tryz.f202 := Tryz.func202
abbrev F.q203 : Nat := 203
theorem D.q203 : T.prog.funcs[F.q203]? = some Tryz.f203 := Tryz.func203
abbrev F.q204 : Nat := 204
theorem D.q204 : T.prog.funcs[F.q204]? = some Tryz.f204 := Tryz.func204
abbrev F.q205 : Nat := 205
theorem D.q205 : T.prog.funcs[F.q205]? = some Tryz.f205 := Tryz.func205
abbrev F.q206 : Nat := 206
theorem D.q206 : T.prog.funcs[F.q206]? = some Tryz.f206 := Tryz.func206
abbrev F.q207 : Nat := 207
theorem D.q207 : T.prog.funcs[F.q207]? = some Tryz.f207 := Tryz.func207
abbrev F.q208 : Nat := 208
theorem D.q208 : T.prog.funcs[F.q208]? = some Tryz.f208 := Tryz.func208
abbrev F.q209 : Nat := 209
theorem D.q209 : T.prog.funcs[F.q209]? = some Tryz.f209 := Tryz.func209
abbrev F.q212 : Nat := 212
theorem D.q212 : T.prog.funcs[F.q212]? = some Tryz.f212 := Tryz.func212
abbrev F.q213 : Nat := 213
theorem D.q213 : T.prog.funcs[F.q213]? = some Tryz.f213 := Tryz.func213
abbrev F.q214 : Nat := 214
theorem D.q214 : T.prog.funcs[F.q214]? = some Tryz.f214 := Tryz.func214
abbrev F.q215 : Nat := 215
theorem D.q215 : T.prog.funcs[F.q215]? = some Tryz.f215 := Tryz.func215
abbrev F.q216 : Nat := 216
theorem D.q216 : T.prog.funcs[F.q216]? = some Tryz.f216 := Tryz.func216
abbrev F.q217 : Nat := 217
abbrev F.q224 : Nat := 224
theorem D.q224 : T.prog.funcs[F.q224]? = some Tryz.f224 := Tryz.func224
abbrev F.q226 : Nat := 226
abbrev F.q227 : Nat := 227
theorem D.q227 : T.prog.funcs[F.q227]? = some Tryz.f227 := Tryz.func227
abbrev F.q228 : Nat := 228
theorem D.q228 : T.prog.funcs[F.q228]? = some Tryz.f228 := Tryz.func228
abbrev F.q229 : Nat := 229
theorem D.q229 : T.prog.funcs[F.q229]? = some Tryz.f229 := Tryz.func229
abbrev F.q238 : Nat := 238
abbrev F.q243 : Nat := 243
abbrev F.q244 : Nat := 244
abbrev F.q245 : Nat := 245
abbrev F.q246 : Nat := 246
abbrev F.q247 : Nat := 247
theorem D.q247 : T.prog.funcs[F.q247]? = some Tryz.f247 := Tryz.func247
abbrev F.q253 : Nat := 253
abbrev F.q254 : Nat := 254
abbrev F.q255 : Nat := 255
abbrev F.q256 : Nat := 256
abbrev F.q257 : Nat := 257
theorem D.q257 : T.prog.funcs[F.q257]? = some Tryz.f257 := Tryz.func257
abbrev F.q259 : Nat := 259
abbrev Ty.int64 : Nat := 2
abbrev Ty.int : Nat := 3
abbrev Ty.bool : Nat := 4
abbrev Ty.uint8 : Nat := 5
abbrev Ty.int32 : Nat := 21
abbrev Ty.api_Rat : Nat := 24
abbrev Ty.api_Expr : Nat := 27
abbrev Ty.api_Errno : Nat := 29
abbrev Ty.api_Term : Nat := 37
abbrev Ty.expr_poly : Nat := 45
abbrev Ty.word_Nat : Nat := 48
abbrev Ty.word_Frac : Nat := 50
abbrev Ty.expr_term : Nat := 52
abbrev Ty.api_Factor : Nat := 57
abbrev Ty.ref01_Nat : Nat := 62
abbrev Ty.ref01_Q : Nat := 64
abbrev Ty.ref04_term : Nat := 66
abbrev Ty.uint32 : Nat := 74
abbrev Ty.expr_failure : Nat := 82
abbrev Ty.syntax_Fault : Nat := 99
abbrev Ty.uint64 : Nat := 107
abbrev Ty.syntax_Token : Nat := 130
abbrev Ty.syntax_Parser : Nat := 138
abbrev Ty.syntax_count : Nat := 146
abbrev Gl.internal_bytealg_MaxLen : Nat := 0
abbrev Gl.math_bits_deBruijn32tab : Nat := 1
abbrev Gl.unicode_utf8_first : Nat := 2
abbrev Gl.unicode_utf8_acceptRanges : Nat := 3
abbrev Gl.internal_strconv_uint64pow10 : Nat := 4
abbrev Gl.math_bits_deBruijn64tab : Nat := 5
end Go.Proofs.Y